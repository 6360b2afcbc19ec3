/- Part 16 of the proof. No condition of its own. -/
import Derived.Test.YtnigabjngpnbiaaGreatQ08
import Derived.Test.YtnigabjngpnbiaaGreatQ12
import Derived.Test.YtnigabjngpnbiaaGreatQ14
namespace Go.Proofs.YtnigabjngpnbiaaGreat
open Go.RowKit Go.Proofs.Tryz
set_option maxRecDepth 1000000
set_option maxHeartbeats 25600000
set_option linter.unusedVariables false
variable{e k:Int}{is l:List Int}{i n:Nat}{J w:World}{p:cG}
theorem fm.Jh{s g:Nat}{A:Kj}{c:Nat}(h:fm w s A n c l)(O:Below g w J)(hs:s<g):fm J s A n c l:=by
 have aq:=h.lt;refine⟨JJ h.lt O.size,?_,?_,?_,h.ls.ep (O.mono ad),h.hn⟩
 .exact(O.cell (p:=⟨s,0,none⟩) hs).trans h.c0
 .obtain⟨i,I,hc⟩:=h.c1;exact⟨i,I,(O.cell (p:=⟨s,1,none⟩) hs).trans hc⟩
 .exact(O.frozen (p:=⟨s,1,none⟩) hs).trans h.fz
theorem gy.mY{s:Nat}{aV v:World}(h:gy s w aV)(O:Below w.heap.size aV v):gy s w v:=
 ⟨O.os.trans h.os,O.tape.trans h.tape,O.output.trans h.output,JZ h.size O.size,λk aj hn=>(O.block k aj).trans (h.block k aj hn)⟩
theorem gy.frozen{s:Nat}{a b:World}(h:gy s a b){k j:Nat}(aj:k<a.heap.size)(hn:k≠s):b.frozen? ⟨k,j,none⟩=a.frozen? ⟨k,j,none⟩:=by
 simp only[World.frozen?,h.block k aj hn]
structure qI(w:World)(s b:Nat):Prop where
 lt:b<w.heap.size
 ne:b≠s
 cs:∃am s1 s2,w.cell? ⟨b,0,none⟩=some (.string am)/\w.cell? ⟨b,1,none⟩=some (.string s1)/\w.cell? ⟨b,2,none⟩=some (.string s2)
theorem qI.on{s b:Nat}(h:qI w s b)(he:gy s w J):qI J s b:=by
 obtain⟨hl,hn,am,s1,s2,h0,ac,ap⟩:=h;exact⟨JJ hl he.size,hn,am,s1,s2,(he.cell hl hn).trans h0,(he.cell hl hn).trans ac,(he.cell hl hn).trans ap⟩
def dJ(s:ah)(t:Int):Option ai:=if s.fault≠0\/t<0 then none else (s.threads[t.toNat]?).bind List.getLast?
def dD(u:ay)(s:ah)(t:Int):Option ax:=(dJ s t).bind λf=>(u.procs[f.proc.toNat]?).bind λp=>p.code[f.pc.toNat]?
def cF(u:ay)(s:ah)(f:ai)(p:bN):Int×Int:=
 match p.at_ with
 | none=>(0,0)
 | some e=>idx (((u.af[p.index.toNat]?).map bI.size).getD 0) (ev s.globals f.ints e)
def bu(u:ay)(s:ah)(f:ai)(p:bN):Int×Int:=
 if p.param then (f.aq.getD p.index.toNat 0,0)
 else if (cF u s f p).2≠0 then (0,(cF u s f p).2) else (eh u.af p.index+(cF u s f p).1,0)
def vZ(u:ay)(s:ah)(t:Int)(p:bN):Int×Int:=match dJ s t with
 | none=>(0,0)
 | some f=>bu u s f p
def cz(g l:List Int):List VE->List Int×Int
 | []=>([],0)
 | e::es=>if (ev g l e).2≠0 then ([],(ev g l e).2) else if (cz g l es).2≠0 then ([],(cz g l es).2) else ((ev g l e).1::(cz g l es).1,0)
def bS(u:ay)(s:ah)(f:ai):List bN->List Int×Int
 | []=>([],0)
 | p::ps=>if (bu u s f p).2≠0 then ([],(bu u s f p).2) else if (bS u s f ps).2≠0 then ([],(bS u s f ps).2) else ((bu u s f p).1::(bS u s f ps).1,0)
def eu(u:ay)(k:Int):Nat:=(((u.procs[k.toNat]?).map cG.locals).getD 0).toNat
def cU(u:ay)(k:Int)(is ls:List Int):ai:=⟨k,0,is++List.replicate (eu u k - is.length) 0,ls⟩
def dI(u:ay):ah:=⟨u.globals,List.replicate (own u.af).length ⟨0,0⟩,[[cU u u.main [] []]],0⟩
def bg(s:ah)(t:Int)(f:ai):ah:={s with threads:=s.threads.modify t.toNat λfs=>fs.dropLast++[f]}
def oR(s:ah)(t:Int)(f:ai):ah:={s with threads:=s.threads.modify t.toNat λfs=>fs++[f]}
def sH(s:ah)(t:Int):ah:={s with threads:=s.threads.modify t.toNat List.dropLast}
def next(f:ai):ai:={f with pc:=f.pc+1}
def bV(a b:Int)(many:Bool):Int:=if a≠0 then a else if b≠0 then b else if many then 4 else 0
def bU(u:ay)(s:ah)(t:Int)(f:ai)(x:ax):ah×Bool:=
 if x.op=1\/x.op=6 then
  let r:=ev s.globals f.ints (x.expr.getD (.num 0))
  if r.2≠0 then ({s with fault:=r.2},true)
  else if x.op=6 then (bg s t (if r.1=0 then {f with pc:=x.target} else next f),true)
  else if x.c5 then ({bg s t (next f) with globals:=s.globals.set x.target.toNat r.1},true)
  else (bg s t {next f with ints:=f.ints.set x.target.toNat r.1},true)
 else if x.op=2\/x.op=3 then
  let a:=cz s.globals f.ints x.ints
  let b:=bS u s f x.places
  let e:=bV a.2 b.2 (decide (x.op=3/\32<=s.threads.length))
  if e≠0 then ({s with fault:=e},true)
  else if x.op=3 then ({bg s t (next f) with threads:=(bg s t (next f)).threads++[[cU u x.target a.1 b.1]]},true)
  else (oR (bg s t (next f)) t (cU u x.target a.1 b.1),true)
 else if x.op=4\/x.op=5 then
  let r:=bu u s f x.place
  if r.2≠0 then ({s with fault:=r.2},true)
  else if x.op=4 then (if free u.af s.table r.1 t then ({bg s t (next f) with table:=eV u.af s.table r.1 t},true) else (s,false))
  else (if heldBy u.af s.table r.1 t then ({bg s t (next f) with table:=cJ u.af s.table r.1 t},true) else ({s with fault:=3},true))
 else if x.op=7 then (bg s t {f with pc:=x.target},true)
 else (sH s t,true)
def bM(u:ay)(s:ah)(t:Int):ah×Bool:=match dJ s t,dD u s t with
 | some f,some x=>bU u s t f x
 | _,_=>(s,false)
theorem nv:∀x:VE,x.lit->x.fit
 | .num n,h=>by
  have F:0<=n/\n<=9223372036854775807:=h;show Fits n
  unfold Fits;omega
 | .eP _,_=>trivial
 | .loc _,_=>trivial
 | .hP _,_=>trivial
 | .un _ x,h=>nv x h
 | .bin _ x y,h=>⟨nv x h.1,nv y h.2⟩
structure bX(u:ay)(f:ai):Prop where
 proc:0<=f.proc
 pc:0<=f.pc
 ex:∃p,u.procs[f.proc.toNat]?=some p/\f.pc<p.code.length/\(f.ints.length:Int)=p.locals/\(f.aq.length:Int)=p.aq
 fits:∀v∈f.ints,Fits v
 aq:∀k∈f.aq,0<=k/\k<elems u.af
structure jo(u:ay)(n D:Nat)(i:Nat)(h:cp):Prop where
 owner:0<=h.owner/\h.owner<=n
 depth:0<=h.depth/\h.depth<=D
 C3:h.owner=0↔h.depth=0
 re:1<h.depth->uR u.af (bh u.af i)=true
structure aV(u:ay)(D:Nat)(s:ah):Prop where
 xB:1<=s.threads.length/\s.threads.length<=32
 eM:∀t∈s.threads,t.length<=D+1/\∀f∈t,bX u f
 c5:s.globals.length=u.globals.length
 lI:∀v∈s.globals,Fits v
 table:s.table.length=(own u.af).length
 holds:∀i h,s.table[i]?=some h->jo u s.threads.length D i h
 fault:0<=s.fault/\s.fault<=4
theorem jo.mono{u:ay}{aQ D j:Nat}{h:cp}(an:jo u n D i h)(hn:n<=aQ)(hD:D<=j):jo u aQ j i h:=
 ⟨⟨an.owner.1,by have:=an.owner.2;omega⟩,⟨an.depth.1,by have:=an.depth.2;omega⟩,an.C3,an.re⟩
section
variable {u:ay} {D:Nat} {s:ah} {t:Int} {f:ai}
theorem jb(h:dJ s t=some f):s.fault=0/\0<=t/\∃fs,s.threads[t.toNat]?=some (fs++[f]):=by
 unfold dJ at h;split at h
 .cases h
 .rename_i hc;refine⟨ad,ad,?_⟩
  cases bx:s.threads[t.toNat]? with
  | none=>rw[bx] at h;cases h
  | some l=>
   rw[bx] at h;have F:l.getLast?=some f:=h;obtain⟨co,rfl⟩:=List.getLast?_eq_some_iff.1 F;exact⟨co,rfl⟩
theorem aV.top(hS:aV u D s)(h:dJ s t=some f):bX u f/\0<=t/\t<s.threads.length:=by
 obtain⟨_,h0,fs,bx⟩:=jb h;have aq:=(List.getElem?_eq_some_iff.1 bx).1;exact⟨(hS.eM _ (JL bx)).2 f (by simp),h0,ad⟩
theorem ov(hU:de u)(hF:bX u f):∃p x,u.procs[f.proc.toNat]?=some p/\oP (bp u) p/\p.code[f.pc.toNat]?=some x/\∃len:Nat,p.code.length=len+1/\g5 (bp u) p.locals p.aq len x/\(x.op≠8->f.pc+1<p.code.length):=by
 obtain⟨p,hp,c4,_,_⟩:=hF.ex;have S:=hU.procs p (JL hp);obtain⟨c,hc,_,aj⟩:=S.code;have h0:=hF.pc;have hlen:p.code.length=c.length+1:=by rw[hc];simp
 have hx:p.code[f.pc.toNat]?=some (p.code[f.pc.toNat]'ad):=List.getElem?_eq_getElem _;refine⟨p,_,hp,S,hx,c.length,hlen,?_⟩;by_cases aq:f.pc.toNat<c.length
 .have he:p.code[f.pc.toNat]'ad=c[f.pc.toNat]:=by
   simp only[hc];exact List.getElem_append_left aq
  rw[he];exact⟨aj _ (List.getElem_mem _),λ_=>ad⟩
 .have he:p.code[f.pc.toNat]'ad=m9:=by
   simp only[hc];rw[List.getElem_append_right ad];simp
  rw[he];exact⟨.inr (.inr (.inr (.inr (.inr ⟨rfl,rfl⟩)))),λh=>absurd rfl h⟩
theorem v5(hS:aV u D s)(hF:bX u f)(hp:u.procs[f.proc.toNat]?=some p){e:VE}(he:fC (bp u) p.locals e):
  e.ok s.globals.length f.ints.length/\mI s.globals f.ints e/\Fits (ev s.globals f.ints e).1:=by
 obtain⟨q,bx,_,hl,_⟩:=hF.ex;rw[hp] at bx;injection bx with bx;subst bx;have ac:e.ok s.globals.length f.ints.length:=by
  rw[hS.c5];have:=he.1;rw[show p.locals.toNat=f.ints.length by omega] at this;exact this
 have i:=nv e he.2;exact⟨ac,⟨hS.lI,hF.fits,i⟩,rl hS.lI hF.fits e i⟩
end
theorem de.xK{u:ay}(h:de u):l5 u.af:=⟨by have:=h.uC;omega,h.gE⟩
theorem Cu(op a b:Int):(arith op a b).2=0\/(arith op a b).2=1:=by
 unfold arith
 repeat' split
 all_goals simp
theorem oh(g l:List Int):∀x:VE,(ev g l x).2=0\/(ev g l x).2=1
 | .num _=>.inl rfl
 | .eP _=>.inl rfl
 | .loc _=>.inl rfl
 | .hP _=>.inl rfl
 | .un op x=>by
  have ab:=oh g l x;unfold ev
  repeat' split
  all_goals first|exact ab|exact .inl rfl
 | .bin op x y=>by
  have c:=oh g l x;have i:=oh g l y;unfold ev
  repeat' split
  all_goals first|exact c|exact i|exact .inl rfl|exact Cu _ _ _
theorem Eo(m:Int)(r:Int×Int)(h:r.2=0\/r.2=1):(idx m r).2=0\/(idx m r).2=1\/(idx m r).2=2:=by
 unfold idx
 repeat' split
 all_goals simp
 all_goals omega
theorem GF(m:Int)(r:Int×Int)(h:(idx m r).2=0):0<=(idx m r).1/\(idx m r).1<m:=by
 unfold idx at h ⊢;split at h
 .rename_i ac;exact absurd h ac
 .split at h
  .simp at h
  .rename_i ac ap;rw[if_neg ac,if_neg ap];simp only[];omega
section
variable {u:ay} {D j:Nat} {s:ah} {t:Int} {f U:ai}
theorem iJ(hU:de u)(hF:bX u f){p:bN}{nl nk:Int}(aj:nk<=f.aq.length)(hp:cQ (bp u) nl nk p):
  ((bu u s f p).2=0\/(bu u s f p).2=1\/(bu u s f p).2=2)/\((bu u s f p).2=0->0<=(bu u s f p).1/\(bu u s f p).1<elems u.af):=by
 unfold bu;rcases hp with⟨ac,ap,aD,bt⟩|⟨ac,m,ap,aD,bt,cl⟩
 .rw[if_pos ac];refine⟨.inl rfl,λ_=>?_⟩;have aq:p.index.toNat<f.aq.length:=ad;have:f.aq.getD p.index.toNat 0=f.aq[p.index.toNat]:=by rw[List.getD_eq_getElem?_getD,List.getElem?_eq_getElem aq];rfl
  simp only[this];exact hF.aq _ (List.getElem_mem _)
 .rw[if_neg (by simp[ac])];have hm:u.af[p.index.toNat]?=some m:=aD;have bH:=hU.gE m (JL hm);obtain⟨i,I⟩:=JN ap;rw[I,J3] at hm;have aq:=(List.getElem?_eq_some_iff.1 hm).1;have O:eh u.af p.index=elems (u.af.take i):=by rw[I];exact mb aq
  have h0:=(hU.xK).lA i;have F:elems (u.af.take i)+m.num<=elems u.af:=by
   have:=pG u.af (i+1);rw[List.take_add_one,hm] at this;simp only[Option.toList_some,hJ] at this;exact this
  have y:=m.nz;have a:((cF u s f p).2=0\/(cF u s f p).2=1\/(cF u s f p).2=2)/\((cF u s f p).2=0->0<=(cF u s f p).1/\(cF u s f p).1<m.num):=by
   unfold cF;by_cases bi:0<m.size
   .obtain⟨e,he,_⟩:=bt bi;have E:((u.af[p.index.toNat]?).map bI.size).getD 0=m.size:=by rw[I,J3,hm];rfl
    rw[he];simp only[E];refine⟨Eo _ _ (oh _ _ _),λh=>?_⟩;have:=GF _ _ h;unfold bI.num;omega
   .rw[cl bi];refine⟨.inl rfl,λ_=>⟨Int.le_refl _,?_⟩⟩;simp only[];omega
  split
  .rename_i aH;exact⟨a.1,λh=>absurd h aH⟩
  .rename_i heq;refine⟨.inl rfl,λ_=>?_⟩;have:=a.2 ad;simp only[O];omega
theorem oD{α:Type}{l:List α}{g:α->α}{x:α}(h:x∈l.modify i g):x∈l\/∃y,l[i]?=some y/\x=g y:=by
 obtain⟨k,aj⟩:=List.getElem?_of_mem h;rw[List.getElem?_modify] at aj;split at aj
 .rename_i heq;subst heq
  cases aa:l[i]? with
  | none=>rw[aa] at aj;cases aj
  | some y=>
   rw[aa] at aj;exact .inr ⟨y,rfl,by simpa using aj.symm⟩
 .exact .inl (JL (by simpa using aj))
theorem aV.mono(h:aV u D s)(hD:D<=j):aV u j s:=
 ⟨h.xB,λt ht=>⟨by have:=(h.eM t ht).1;omega,(h.eM t ht).2⟩,h.c5,h.lI,h.table,λi x hx=>(h.holds i x hx).mono (JI _) hD,h.fault⟩
theorem aV.oi(h:aV u D s)(he:0<=e/\e<=4):aV u D {s with fault:=e}:=
 ⟨h.xB,h.eM,h.c5,h.lI,h.table,h.holds,he⟩
theorem aV.threads(h:aV u D s)(g:List ai->List ai)(aS:∀fs,s.threads[t.toNat]?=some fs->(g fs).length<=j+1/\∀f∈g fs,bX u f)(hD:D<=j) :
  aV u j {s with threads:=s.threads.modify t.toNat g}:=by
 have hl:(s.threads.modify t.toNat g).length=s.threads.length:=List.length_modify ..;refine⟨by show 1<=(s.threads.modify t.toNat g).length/\_<=32;rw[hl];exact h.xB,λx hx=>?_,h.c5,h.lI,h.table,λi x hx=>?_,h.fault⟩
 .rcases oD hx with hx|⟨y,aa,rfl⟩
  .exact⟨by have:=(h.eM x hx).1;omega,(h.eM x hx).2⟩
  .exact aS y aa
 .show jo u (s.threads.modify t.toNat g).length j i x
  rw[hl];exact(h.holds i x hx).mono (JI _) hD
theorem gg(h:aV u D s)(ht:dJ s t=some f)(aA:bX u U):aV u D (bg s t U):=by
 obtain⟨_,_,fs,bx⟩:=jb ht;refine h.threads _ (λgs aH=>?_) (JI _);rw[bx] at aH;injection aH with aH;subst aH;have:=h.eM _ (JL bx);simp only[List.dropLast_concat,JK,JT] at this ⊢;refine⟨this.1,λx hx=>?_⟩;rcases JR.1 hx with hx|hx
 .exact this.2 x (by simp[hx])
 .have:x=U:=by simpa using hx
  subst this;exact aA
theorem EG(h:aV u D s):aV u D (sH s t):=by
 refine h.threads _ (λgs aH=>?_) (JI _);have:=h.eM _ (JL aH);refine⟨by rw[List.length_dropLast];omega,λx hx=>this.2 x (List.mem_of_mem_take (by rw[List.dropLast_eq_take] at hx;exact hx))⟩
theorem Dv(h:aV u D s)(aA:bX u U):aV u (D+1) (oR s t U):=by
 refine h.threads _ (λgs aH=>?_) ad;have:=h.eM _ (JL aH);refine⟨by simp;omega,λx hx=>?_⟩;rcases JR.1 hx with hx|hx
 .exact this.2 x hx
 .have:x=U:=by simpa using hx
  subst this;exact aA
theorem om(hF:bX u f)(hp:u.procs[f.proc.toNat]?=some p)(h0:0<=k)(ac:k<p.code.length):bX u {f with pc:=k}:=by
 obtain⟨q,bx,_,ap,aD⟩:=hF.ex;rw[hp] at bx;injection bx with bx;subst bx;exact⟨hF.proc,h0,⟨_,hp,ac,ap,aD⟩,hF.fits,hF.aq⟩
theorem uc(hF:bX u f)(hl:is.length=f.ints.length)(aA:∀v∈is,Fits v):bX u {f with ints:=is}:=by
 obtain⟨q,bx,ac,ap,aD⟩:=hF.ex;exact⟨hF.proc,hF.pc,⟨q,bx,ac,by show (is.length:Int)=_;rw[hl];exact ap,aD⟩,aA,hF.aq⟩
theorem ow(hS:aV u D s)(hF:bX u f){p:cG}(hp:u.procs[f.proc.toNat]?=some p):∀(es:List VE),(∀e∈es,fC (bp u) p.locals e)->
  ((cz s.globals f.ints es).2=0\/(cz s.globals f.ints es).2=1)/\((cz s.globals f.ints es).2=0->(cz s.globals f.ints es).1.length=es.length)/\∀v∈(cz s.globals f.ints es).1,Fits v
 | [],_=>⟨.inl rfl,λ_=>rfl,λv h=>by simp[cz] at h⟩
 | e::es,h=>by
  obtain⟨ac,ap,aD⟩:=ow hS hF hp es λx hx=>h x (by simp[hx]);have he:=v5 hS hF hp (h e (by simp));have b:=oh s.globals f.ints e;unfold cz;split
  .rename_i aH;exact⟨b,λh=>absurd h aH,λv bD=>by simp at bD⟩
  .split
   .rename_i aH;exact⟨ac,λh=>absurd h aH,λv bD=>by simp at bD⟩
   .rename_i heq;refine⟨.inl rfl,λ_=>by simp[ap ad],λv bD=>?_⟩;rcases JY.1 bD with rfl|bD
    .exact he.2.2
    .exact aD v bD
theorem mo(hU:de u)(hF:bX u f){nl nk:Int}(aj:nk<=f.aq.length):∀(ps:List bN),(∀p∈ps,cQ (bp u) nl nk p)->
  ((bS u s f ps).2=0\/(bS u s f ps).2=1\/(bS u s f ps).2=2)/\((bS u s f ps).2=0->(bS u s f ps).1.length=ps.length)/\∀v∈(bS u s f ps).1,0<=v/\v<elems u.af
 | [],_=>⟨.inl rfl,λ_=>rfl,λv h=>by simp[bS] at h⟩
 | p::ps,h=>by
  obtain⟨ac,ap,aD⟩:=mo hU hF aj ps λx hx=>h x (by simp[hx]);have he:=iJ (s:=s) hU hF aj (h p (by simp));unfold bS;split
  .rename_i aH;exact⟨he.1,λh=>absurd h aH,λv bD=>by simp at bD⟩
  .rename_i a;split
   .rename_i aH;exact⟨ac,λh=>absurd h aH,λv bD=>by simp at bD⟩
   .rename_i heq;refine⟨.inl rfl,λ_=>by simp[ap ad],λv bD=>?_⟩;rcases JY.1 bD with rfl|bD
    .exact he.2 ad
    .exact aD v bD
theorem qg(hU:de u){ls:List Int}{sg:Int×Int}(h0:0<=k)(hs:(bp u).sig[k.toNat]?=some sg)(I:(is.length:Int)=sg.1)(hl:(ls.length:Int)=sg.2)
  (aA:∀v∈is,Fits v) (aj:∀v∈ls,0<=v/\v<elems u.af):bX u (cU u k is ls):=by
 have a:(u.procs.map λp=>(p.ints,p.aq))[k.toNat]?=some sg:=hs;rw[List.getElem?_map] at a
 cases hp:u.procs[k.toNat]? with
 | none=>rw[hp] at a;cases a
 | some p=>
  rw[hp] at a;injection a with a;subst a;simp only[] at I hl;have S:=hU.procs p (JL hp);obtain⟨c,hc,_⟩:=S.code;have aI:eu u k=p.locals.toNat:=by unfold eu;rw[hp];rfl
  have ac:=S.ints;refine⟨h0,Int.le_refl _,⟨p,hp,?_,?_,hl⟩,λv bD=>?_,aj⟩
  .show (0:Int)<(p.code.length:Int)
   rw[hc];simp
   try omega
  .show ((is++List.replicate (eu u k - is.length) 0).length:Int)=p.locals
   rw[aI];simp;omega
  .rcases JR.1 bD with bD|bD
   .exact aA v bD
   .rw[(List.mem_replicate.1 bD).2];exact hv
theorem Ex(hF:bX u f)(hp:u.procs[f.proc.toNat]?=some p)(h:f.pc+1<p.code.length):bX u (next f):=
 om hF hp (aC hF.pc) h
theorem sW{v:Int}(h:∀x∈l,Fits x)(bD:Fits v):∀x∈l.set i v,Fits x:=by
 intro x hx;rcases List.mem_or_eq_of_mem_set hx with hx|rfl
 .exact h x hx
 .exact bD
theorem wa{T:List cp}{k:Nat}(aj:k<T.length):T[k]?=some (jm T k):=by
 unfold jm;rw[J3,List.getElem?_eq_getElem aj];rfl
theorem uv(hS:aV u D s)(h0:0<=e)(ht:0<=t/\t<s.threads.length)(bO:free u.af s.table e t=true):
  ∀i h,(s.table.set e.toNat ⟨t+1,(jm s.table e).depth+1⟩)[i]?=some h->jo u s.threads.length (D+1) i h:=by
 intro i h I;rw[List.getElem?_set] at I;split at I
 .rename_i heq;subst heq;split at I
  .rename_i aq;injection I with I;subst I;have aS:=wa (T:=s.table) aq;rw[show ((e.toNat:Nat):Int)=e by omega] at aS;have bb:=hS.holds _ _ aS;refine⟨⟨by show 0<=t+1;omega,by show t+1<=_;omega⟩,⟨by have:=bb.depth.1;show 0<=_+1;omega,by have:=bb.depth.2;show _+1<=((D+1:Nat):Int);omega⟩,?_,λh=>?_⟩
   .have:=bb.depth.1;show t+1=0↔(jm s.table e).depth+1=0
    omega
   .have F:1<(jm s.table e).depth+1:=h;rw[show ((e.toNat:Nat):Int)=e by omega];unfold free at bO;simp only[JU,Bool.or_eq_true,beq_iff_eq,Kc] at bO;rcases bO.2 with ap|ap
    .have:=bb.C3.1 ap;omega
    .exact ap.2
  .cases I
 .exact(hS.holds i h I).mono (JI _) ad
theorem rN(hS:aV u D s)(an:heldBy u.af s.table e t=true):
  ∀i h,(s.table.set e.toNat (down (jm s.table e)))[i]?=some h->jo u s.threads.length D i h:=by
 intro i h I;unfold heldBy at an;simp only[JU,beq_iff_eq,Kc] at an;rw[List.getElem?_set] at I;split at I
 .rename_i heq;subst heq;split at I
  .rename_i aq;injection I with I;subst I;have h0:=(fp.1 an.1.1).1;have aS:=wa (T:=s.table) aq;rw[show ((e.toNat:Nat):Int)=e by omega] at aS;have bb:=hS.holds _ _ aS;have hd:(jm s.table e).depth≠0:=λh=>by have:=bb.C3.2 h;omega
   have:=bb.depth;have aE:=bb.owner;unfold down;refine⟨?_,⟨by show 0<=_ - 1;omega,by show _ - 1<=_;omega⟩,?_,λh=>bb.re (by have F:1<(jm s.table e).depth - 1:=h;omega)⟩
   .simp only[];split<;>omega
   .simp only[];split<;>omega
  .cases I
 .exact hS.holds i h I
theorem m7(a b:Int)(m:Bool)(bE:0<=a/\a<=4)(O:0<=b/\b<=4):0<=bV a b m/\bV a b m<=4:=by
 unfold bV
 repeat' split
 all_goals omega
theorem n7(a b:Int)(m:Bool)(h:bV a b m=0):a=0/\b=0/\m=false:=by
 unfold bV at h;by_cases bE:a=0
 .by_cases O:b=0
  .cases m
   .exact⟨bE,O,rfl⟩
   .simp[bE,O] at h
  .simp[bE,O] at h
 .simp[bE] at h
theorem s3(hU:de u)(hS:aV u D s):aV u (D+1) (bM u s t).1:=by
 unfold bM
 cases ht:dJ s t with
 | none=>exact hS.mono ad
 | some f=>
  obtain⟨hF,c9,n⟩:=hS.top ht;obtain⟨p,x,hp,S,hx,len,hlen,I,H⟩:=ov hU hF;have c:dD u s t=some x:=by unfold dD;rw[ht];simp[hp,hx]
  rw[c];simp only[];obtain⟨q,bx,_,cC,aW⟩:=hF.ex;have m:p=q:=by rw[hp] at bx;injection bx
  subst m;have a:aV u (D+1) s:=hS.mono ad;have bo:x.op≠8->bX u (next f):=λh=>Ex hF hp (H h);unfold bU;rcases I with⟨ac,⟨e,he,bb⟩,ap,aD,bt⟩|⟨ac,aS,sg,ap,aD,bt,cl,Q,g⟩|⟨ac,aS,ap⟩|⟨ac,aS,⟨e,he,bb⟩,ap,aD⟩|⟨ac,aS,ap,aD⟩|⟨ac,aS⟩
  ·
   have a3:=v5 hS hF hp bb;have b:=oh s.globals f.ints e;rw[if_pos (.inl ac),he];simp only[Option.getD_some];split
   .exact a.oi ad
   .rw[if_neg ad]
    cases bC:x.c5 with
    | true=>
     simp only[if_true];have:=gg a ht (bo ad)
     exact⟨this.xB,this.eM,by show (s.globals.set _ _).length=_;rw[List.length_set];exact hS.c5,sW hS.lI a3.2.2,this.table,this.holds,this.fault⟩
    | false=>
     simp only[Kd,if_false];exact gg a ht (uc (bo ad) (List.length_set ..) (sW hF.fits a3.2.2))
  ·
   have hI:=ow hS hF hp x.ints Q;have bP:=mo (s:=s) hU hF ad x.places g;rw[if_neg ad,if_pos ac];simp only[];by_cases aH:bV (cz s.globals f.ints x.ints).2 (bS u s f x.places).2 (decide (x.op=3/\32<=s.threads.length))≠0
   .rw[if_pos aH];exact a.oi (m7 _ _ _ ad ad)
   .rw[if_neg aH];obtain⟨bE,O,hm⟩:=n7 _ _ _ (Classical.not_not.1 aH);have bO:=qg hU (k:=x.target) ap aD (by rw[hI.2.1 bE];exact bt) (by rw[bP.2.1 O];exact cl) hI.2.2 bP.2.2;have hT:=gg a ht (bo ad);by_cases l:x.op=3
    .rw[if_pos l];have bv:s.threads.length<32:=by
      simp only[decide_eq_false_iff_not,not_and] at hm;have:=hm l;omega
     have hl:(bg s t (next f)).threads.length=s.threads.length:=List.length_modify ..;refine⟨?_,λy aa=>?_,hT.c5,hT.lI,hT.table,λi y aa=>?_,hT.fault⟩
     .simp only[JK,JT,hl];omega
     .rcases JR.1 aa with aa|aa
      .exact hT.eM y aa
      .have:y=[cU u x.target (cz s.globals f.ints x.ints).1 (bS u s f x.places).1]:=by simpa using aa
       subst this;refine⟨by simp,λz bi=>?_⟩;have:z=cU u x.target (cz s.globals f.ints x.ints).1 (bS u s f x.places).1:=by simpa using bi
       subst this;exact bO
     .refine(hT.holds i y aa).mono ?_ (JI _);simp only[JK];omega
    .rw[if_neg l];exact Dv (gg hS ht (bo ad)) bO
  ·
   have ar:=iJ (s:=s) hU hF ad ap;rw[if_neg ad,if_neg ad,if_pos ac];simp only[];split
   .refine a.oi ?_;rcases ar.1 with h|h|h<;>omega
   .rename_i heq;have aZ:=ar.2 ad;have hT:=gg a ht (bo ad);have hl:(bg s t (next f)).threads.length=s.threads.length:=List.length_modify ..;split
    .split
     .rename_i bO;refine⟨hT.xB,hT.eM,hT.c5,hT.lI,by show (eV _ _ _ _).length=_;rw[eD];exact hS.table,λi y aa=>?_,hT.fault⟩;show jo u (bg s t (next f)).threads.length (D+1) i y
      rw[hl];refine uv hS aZ.1 ⟨c9,n⟩ bO i y ?_;have d:(eV u.af s.table (bu u s f x.place).1 t)[i]?=some y:=aa;unfold eV at d;rw[if_pos bO] at d;exact d
     .exact a
    .split
     .rename_i an;refine⟨hT.xB,hT.eM,hT.c5,hT.lI,by show (cJ _ _ _ _).length=_;rw[ez];exact hS.table,λi y aa=>?_,hT.fault⟩;show jo u (bg s t (next f)).threads.length (D+1) i y
      rw[hl];refine(rN hS an i y ?_).mono (JI _) ad;have d:(cJ u.af s.table (bu u s f x.place).1 t)[i]?=some y:=aa;unfold cJ at d;rw[if_pos an] at d;exact d
     .exact a.oi ad
  ·
   have b:=oh s.globals f.ints e;rw[if_pos (.inr ac),he];simp only[Option.getD_some];split
   .exact a.oi ad
   .try rw[if_pos ac]
    refine gg a ht ?_;split
    .exact om hF hp ap (by rw[hlen];omega)
    .exact bo ad
  .rw[if_neg ad,if_neg ad,if_neg ad,if_pos ac];exact gg a ht (om hF hp ap (by rw[hlen];omega))
  .rw[if_neg ad,if_neg ad,if_neg ad,if_neg ad];exact EG a
theorem nw(hU:de u):aV u 0 (dI u):=by
 obtain⟨p,h0,hp,I,hl⟩:=hU.main;have aA:bX u (cU u u.main [] []):=by
  refine qg hU h0 (sg:=(0,0)) ?_ rfl rfl (λv bD=>by simp at bD) (λv bD=>by simp at bD);show (u.procs.map λp=>(p.ints,p.aq))[u.main.toNat]?=_
  rw[List.getElem?_map,hp];simp[I,hl]
 refine⟨by show 1<=[[cU u u.main [] []]].length/\_;simp[dI],λt ht=>?_,rfl,λv bD=>?_,by simp[dI],λi h I=>?_,by simp[dI]⟩
 .have:t=[cU u u.main [] []]:=by simpa[dI] using ht
  subst this;refine⟨by simp,λx hx=>?_⟩;have:x=cU u u.main [] []:=by simpa using hx
  subst this;exact aA
 .have:=hU.globals v bD;unfold Fits;omega
 .have F:(List.replicate (own u.af).length (⟨0,0⟩:cp))[i]?=some h:=I;rw[List.getElem?_replicate] at F;split at F
  .injection F with F;subst F;exact⟨⟨by simp,by simp⟩,⟨by simp,by simp⟩,by simp,λh=>by simp at h⟩
  .cases F
end
end Go.Proofs.YtnigabjngpnbiaaGreat
