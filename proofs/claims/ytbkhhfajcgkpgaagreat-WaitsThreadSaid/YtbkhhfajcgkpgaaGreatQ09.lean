/- Part 9 of the proof. No condition of its own. -/
import Derived.Test.YtbkhhfajcgkpgaaGreatQ08
namespace Go.Proofs.YtbkhhfajcgkpgaaGreat
open Go.RowKit Go.Proofs.Tryz
set_option maxRecDepth 1000000
set_option maxHeartbeats 25600000
set_option linter.unusedVariables false
variable{e k l o p:Int}{r:Int×Int}{is:List Int}{X:List bA}{T:List db}{i:Nat}{aV:ah}
def dE(s:ah)(t:Int):Option an:=if s.fault≠0∨t<0 then none else (s.threads[t.toNat]?).bind List.getLast?
def dg(u:av)(s:ah)(t:Int):Option ay:=(dE s t).bind fun f=>(u.procs[f.proc.toNat]?).bind fun p=>p.code[f.pc.toNat]?
def cI(u:av)(s:ah)(f:an)(p:bC):Int×Int:=
 match p.at_ with
 | none=>(0,0)
 | some e=>idx (((u.ae[p.index.toNat]?).map bA.size).getD 0) (ev s.globals f.ints e)
def bk(u:av)(s:ah)(f:an)(p:bC):Int×Int:=
 if p.param then (f.aw.getD p.index.toNat 0,0)
 else if (cI u s f p).2≠0 then (0,(cI u s f p).2) else (eG u.ae p.index+(cI u s f p).1,0)
def w4(u:av)(s:ah)(t:Int)(p:bC):Int×Int:=match dE s t with
 | none=>(0,0)
 | some f=>bk u s f p
def cV(g l:List Int):List VE→List Int×Int
 | []=>([],0)
 | e::es=>if (ev g l e).2≠0 then ([],(ev g l e).2) else if (cV g l es).2≠0 then ([],(cV g l es).2) else ((ev g l e).1::(cV g l es).1,0)
def b3(u:av)(s:ah)(f:an):List bC→List Int×Int
 | []=>([],0)
 | p::ps=>if (bk u s f p).2≠0 then ([],(bk u s f p).2) else if (b3 u s f ps).2≠0 then ([],(b3 u s f ps).2) else ((bk u s f p).1::(b3 u s f ps).1,0)
def fT(u:av)(k:Int):Nat:=(((u.procs[k.toNat]?).map c6.locals).getD 0).toNat
def dV(u:av)(k:Int)(is ls:List Int):an:=⟨k,0,is++List.replicate (fT u k - is.length) 0,ls⟩
def ew(u:av):ah:=⟨u.globals,List.replicate (own u.ae).length ⟨0,0⟩,[[dV u u.main [] []]],0⟩
def bH(s:ah)(t:Int)(f:an):ah:={s with threads:=s.threads.modify t.toNat fun fs=>fs.dropLast++[f]}
def pY(s:ah)(t:Int)(f:an):ah:={s with threads:=s.threads.modify t.toNat fun fs=>fs++[f]}
def yf(s:ah)(t:Int):ah:={s with threads:=s.threads.modify t.toNat List.dropLast}
def next(f:an):an:={f with pc:=f.pc+1}
def bO(a b:Int)(many:Bool):Int:=if a≠0 then a else if b≠0 then b else if many then 4 else 0
def cj(u:av)(s:ah)(t:Int)(f:an)(x:ay):ah×Bool:=
 if x.op=1∨x.op=6 then
  let r:=ev s.globals f.ints (x.expr.getD (.num 0))
  if r.2≠0 then ({s with fault:=r.2},true)
  else if x.op=6 then (bH s t (if r.1=0 then {f with pc:=x.target} else next f),true)
  else if x.c8 then ({bH s t (next f) with globals:=s.globals.set x.target.toNat r.1},true)
  else (bH s t {next f with ints:=f.ints.set x.target.toNat r.1},true)
 else if x.op=2∨x.op=3 then
  let a:=cV s.globals f.ints x.ints
  let b:=b3 u s f x.places
  let e:=bO a.2 b.2 (decide (x.op=3∧32≤s.threads.length))
  if e≠0 then ({s with fault:=e},true)
  else if x.op=3 then ({bH s t (next f) with threads:=(bH s t (next f)).threads++[[dV u x.target a.1 b.1]]},true)
  else (pY (bH s t (next f)) t (dV u x.target a.1 b.1),true)
 else if x.op=4∨x.op=5 then
  let r:=bk u s f x.place
  if r.2≠0 then ({s with fault:=r.2},true)
  else if x.op=4 then (if free u.ae s.table r.1 t then ({bH s t (next f) with table:=hq u.ae s.table r.1 t},true) else (s,false))
  else (if heldBy u.ae s.table r.1 t then ({bH s t (next f) with table:=dI u.ae s.table r.1 t},true) else ({s with fault:=3},true))
 else if x.op=7 then (bH s t {f with pc:=x.target},true)
 else (yf s t,true)
def cd(u:av)(s:ah)(t:Int):ah×Bool:=match dE s t,dg u s t with
 | some f,some x=>cj u s t f x
 | _,_=>(s,false)
theorem ot:∀x:VE,x.lit→x.fit
 | .num n,h=>by
  have q:0≤n∧n≤9223372036854775807:=h;show Fits n
  unfold Fits;omega
 | .gy _,_=>trivial
 | .loc _,_=>trivial
 | .ia _,_=>trivial
 | .un _ x,h=>ot x h
 | .bin _ x y,h=>⟨ot x h.1,ot y h.2⟩
structure bQ(u:av)(f:an):Prop where
 proc:0≤f.proc
 pc:0≤f.pc
 ex:∃p,u.procs[f.proc.toNat]?=some p∧f.pc<p.code.length∧(f.ints.length:Int)=p.locals∧(f.aw.length:Int)=p.aw
 fits:∀v∈f.ints,Fits v
 aw:∀k∈f.aw,0≤k∧k<elems u.ae
structure jN(u:av)(n D:Nat)(i:Nat)(h:db):Prop where
 owner:0≤h.owner∧h.owner≤n
 depth:0≤h.depth∧h.depth≤D
 Gx:h.owner=0↔h.depth=0
 re:1<h.depth→ED u.ae (br u.ae i)=true
structure aS(u:av)(D:Nat)(s:ah):Prop where
 ys:1≤s.threads.length∧s.threads.length≤32
 fq:∀t∈s.threads,t.length≤D+1∧∀f∈t,bQ u f
 c8:s.globals.length=u.globals.length
 ml:∀v∈s.globals,Fits v
 table:s.table.length=(own u.ae).length
 holds:∀i h,s.table[i]?=some h→jN u s.threads.length D i h
 fault:0≤s.fault∧s.fault≤4
theorem jN.mono{u:av}{n aZ D j:Nat}{h:db}(aQ:jN u n D i h)(hn:n≤aZ)(hD:D≤j):jN u aZ j i h:=
 ⟨⟨aQ.owner.1,by have:=aQ.owner.2;omega⟩,⟨aQ.depth.1,by have:=aQ.depth.2;omega⟩,aQ.Gx,aQ.re⟩
section
variable {u:av} {D:Nat} {s:ah} {t:Int} {f:an}
theorem jx(h:dE s t=some f):s.fault=0∧0≤t∧∃fs,s.threads[t.toNat]?=some (fs++[f]):=by
 unfold dE at h;split at h
 ·cases h
 ·rename_i hc;refine⟨ab,ab,?_⟩
  cases bm:s.threads[t.toNat]? with
  | none=>rw[bm] at h;cases h
  | some l=>
   rw[bm] at h;have q:l.getLast?=some f:=h;obtain⟨br,rfl⟩:=List.getLast?_eq_some_iff.1 q;exact⟨br,rfl⟩
theorem aS.top(hS:aS u D s)(h:dE s t=some f):bQ u f∧0≤t∧t<s.threads.length:=by
 obtain⟨_,h0,fs,bm⟩:=jx h;have aw:=(List.getElem?_eq_some_iff.1 bm).1;exact⟨(hS.fq _ (JT bm)).2 f (by simp),h0,ab⟩
theorem pA(hU:cU u)(hF:bQ u f):∃p x,u.procs[f.proc.toNat]?=some p∧pX (bh u) p∧p.code[f.pc.toNat]?=some x∧∃len:Nat,p.code.length=len+1∧hy (bh u) p.locals p.aw len x∧(x.op≠8→f.pc+1<p.code.length):=by
 obtain⟨p,hp,cW,_,_⟩:=hF.ex;have aY:=hU.procs p (JT hp);obtain⟨c,hc,_,aj⟩:=aY.code;have h0:=hF.pc;have hlen:p.code.length=c.length+1:=by rw[hc];simp
 have hx:p.code[f.pc.toNat]?=some (p.code[f.pc.toNat]'ab):=List.getElem?_eq_getElem _;refine⟨p,_,hp,aY,hx,c.length,hlen,?_⟩;by_cases aw:f.pc.toNat<c.length
 ·have he:p.code[f.pc.toNat]'ab=c[f.pc.toNat]:=by
   simp only[hc];exact List.getElem_append_left aw
  rw[he];exact⟨aj _ (List.getElem_mem _),fun _=>ab⟩
 ·have he:p.code[f.pc.toNat]'ab=mX:=by
   simp only[hc];rw[List.getElem_append_right ab];simp
  rw[he];exact⟨.inr (.inr (.inr (.inr (.inr ⟨rfl,rfl⟩)))),fun h=>absurd rfl h⟩
theorem w6(hS:aS u D s)(hF:bQ u f){p:c6}(hp:u.procs[f.proc.toNat]?=some p){e:VE}(he:fO (bh u) p.locals e):
  e.ok s.globals.length f.ints.length∧nu s.globals f.ints e∧Fits (ev s.globals f.ints e).1:=by
 obtain⟨q,bm,_,hl,_⟩:=hF.ex;rw[hp] at bm;injection bm with bm;subst bm;have ae:e.ok s.globals.length f.ints.length:=by
  rw[hS.c8];have:=he.1;rw[show p.locals.toNat=f.ints.length by omega] at this;exact this
 have i:=ot e he.2;exact⟨ae,⟨hS.ml,hF.fits,i⟩,se hS.ml hF.fits e i⟩
end
theorem cU.DM{u:av}(h:cU u):qu u.ae:=⟨by have:=h.x9;omega,h.gm⟩
theorem Cj(op a b:Int):(arith op a b).2=0∨(arith op a b).2=1:=by
 unfold arith
 repeat' split
 all_goals simp
theorem po(g l:List Int):∀x:VE,(ev g l x).2=0∨(ev g l x).2=1
 | .num _=>.inl rfl
 | .gy _=>.inl rfl
 | .loc _=>.inl rfl
 | .ia _=>.inl rfl
 | .un op x=>by
  have ao:=po g l x;unfold ev
  repeat' split
  all_goals first|exact ao|exact .inl rfl
 | .bin op x y=>by
  have i:=po g l x;have c:=po g l y;unfold ev
  repeat' split
  all_goals first|exact i|exact c|exact .inl rfl|exact Cj _ _ _
theorem Ei(m:Int)(r:Int×Int)(h:r.2=0∨r.2=1):(idx m r).2=0∨(idx m r).2=1∨(idx m r).2=2:=by
 unfold idx
 repeat' split
 all_goals simp
 all_goals omega
theorem Gw(m:Int)(r:Int×Int)(h:(idx m r).2=0):0≤(idx m r).1∧(idx m r).1<m:=by
 unfold idx at h ⊢;split at h
 ·rename_i ae;exact absurd h ae
 ·split at h
  ·simp at h
  ·rename_i ae aC;rw[if_neg ae,if_neg aC];simp only[];omega
section
variable {u:av} {D j:Nat} {s:ah} {t:Int} {f bP:an}
theorem ji(hU:cU u)(hF:bQ u f){p:bC}{nl nk:Int}(aj:nk≤f.aw.length)(hp:cJ (bh u) nl nk p):
  ((bk u s f p).2=0∨(bk u s f p).2=1∨(bk u s f p).2=2)∧((bk u s f p).2=0→0≤(bk u s f p).1∧(bk u s f p).1<elems u.ae):=by
 unfold bk;rcases hp with⟨ae,aC,aT,a9⟩|⟨ae,m,aC,aT,a9,cl⟩
 ·rw[if_pos ae];refine⟨.inl rfl,fun _=>?_⟩;have aw:p.index.toNat<f.aw.length:=ab;have:f.aw.getD p.index.toNat 0=f.aw[p.index.toNat]:=by rw[List.getD_eq_getElem?_getD,List.getElem?_eq_getElem aw];rfl
  simp only[this];exact hF.aw _ (List.getElem_mem _)
 ·rw[if_neg (by simp[ae])];have hm:u.ae[p.index.toNat]?=some m:=aT;have U:=hU.gm m (JT hm);obtain⟨i,al⟩:=JV aC;rw[al,Kb] at hm;have aw:=(List.getElem?_eq_some_iff.1 hm).1;have O:eG u.ae p.index=elems (u.ae.take i):=by rw[al];exact mT aw
  have h0:=(hU.DM).l6 i;have z:elems (u.ae.take i)+m.num≤elems u.ae:=by
   have:=qD u.ae (i+1);rw[List.take_add_one,hm] at this;simp only[Option.toList_some,h6] at this;exact this
  have b:=m.ov;have a:((cI u s f p).2=0∨(cI u s f p).2=1∨(cI u s f p).2=2)∧((cI u s f p).2=0→0≤(cI u s f p).1∧(cI u s f p).1<m.num):=by
   unfold cI;by_cases bi:0<m.size
   ·obtain⟨e,he,_⟩:=a9 bi;have F:((u.ae[p.index.toNat]?).map bA.size).getD 0=m.size:=by rw[al,Kb,hm];rfl
    rw[he];simp only[F];refine⟨Ei _ _ (po _ _ _),fun h=>?_⟩;have:=Gw _ _ h;unfold bA.num;omega
   ·rw[cl bi];refine⟨.inl rfl,fun _=>⟨Int.le_refl _,?_⟩⟩;simp only[];omega
  split
  ·rename_i a1;exact⟨a.1,fun h=>absurd h a1⟩
  ·rename_i heq;refine⟨.inl rfl,fun _=>?_⟩;have:=a.2 ab;simp only[O];omega
theorem pG{α:Type}{l:List α}{g:α→α}{x:α}(h:x∈l.modify i g):x∈l∨∃y,l[i]?=some y∧x=g y:=by
 obtain⟨k,aj⟩:=List.getElem?_of_mem h;rw[List.getElem?_modify] at aj;split at aj
 ·rename_i heq;subst heq
  cases a4:l[i]? with
  | none=>rw[a4] at aj;cases aj
  | some y=>
   rw[a4] at aj;exact .inr ⟨y,rfl,by simpa using aj.symm⟩
 ·exact .inl (JT (by simpa using aj))
theorem aS.mono(h:aS u D s)(hD:D≤j):aS u j s:=
 ⟨h.ys,fun t ht=>⟨by have:=(h.fq t ht).1;omega,(h.fq t ht).2⟩,h.c8,h.ml,h.table,fun i x hx=>(h.holds i x hx).mono (JQ _) hD,h.fault⟩
theorem aS.pq(h:aS u D s)(he:0≤e∧e≤4):aS u D {s with fault:=e}:=
 ⟨h.ys,h.fq,h.c8,h.ml,h.table,h.holds,he⟩
theorem aS.threads(h:aS u D s)(g:List an→List an)(aJ:∀fs,s.threads[t.toNat]?=some fs→(g fs).length≤j+1∧∀f∈g fs,bQ u f)(hD:D≤j) :
  aS u j {s with threads:=s.threads.modify t.toNat g}:=by
 have hl:(s.threads.modify t.toNat g).length=s.threads.length:=List.length_modify ..;refine⟨by show 1≤(s.threads.modify t.toNat g).length∧_≤32;rw[hl];exact h.ys,fun x hx=>?_,h.c8,h.ml,h.table,fun i x hx=>?_,h.fault⟩
 ·rcases pG hx with hx|⟨y,a4,rfl⟩
  ·exact⟨by have:=(h.fq x hx).1;omega,(h.fq x hx).2⟩
  ·exact aJ y a4
 ·show jN u (s.threads.modify t.toNat g).length j i x
  rw[hl];exact(h.holds i x hx).mono (JQ _) hD
theorem gE(h:aS u D s)(ht:dE s t=some f)(aD:bQ u bP):aS u D (bH s t bP):=by
 obtain⟨_,_,fs,bm⟩:=jx ht;refine h.threads _ (fun gs a4=>?_) (JQ _);rw[bm] at a4;injection a4 with a4;subst a4;have:=h.fq _ (JT bm);simp only[List.dropLast_concat,JS,J1] at this ⊢;refine⟨this.1,fun x hx=>?_⟩;rcases JZ.1 hx with hx|hx
 ·exact this.2 x (by simp[hx])
 ·have:x=bP:=by simpa using hx
  subst this;exact aD
theorem Ex(h:aS u D s):aS u D (yf s t):=by
 refine h.threads _ (fun gs a4=>?_) (JQ _);have:=h.fq _ (JT a4);refine⟨by rw[List.length_dropLast];omega,fun x hx=>this.2 x (List.mem_of_mem_take (by rw[List.dropLast_eq_take] at hx;exact hx))⟩
theorem Dg(h:aS u D s)(aD:bQ u bP):aS u (D+1) (pY s t bP):=by
 refine h.threads _ (fun gs a4=>?_) ab;have:=h.fq _ (JT a4);refine⟨by simp;omega,fun x hx=>?_⟩;rcases JZ.1 hx with hx|hx
 ·exact this.2 x hx
 ·have:x=bP:=by simpa using hx
  subst this;exact aD
theorem pv(hF:bQ u f){p:c6}(hp:u.procs[f.proc.toNat]?=some p)(h0:0≤k)(ae:k<p.code.length):bQ u {f with pc:=k}:=by
 obtain⟨q,bm,_,aC,aT⟩:=hF.ex;rw[hp] at bm;injection bm with bm;subst bm;exact⟨hF.proc,h0,⟨_,hp,ae,aC,aT⟩,hF.fits,hF.aw⟩
theorem vm(hF:bQ u f)(hl:is.length=f.ints.length)(aD:∀v∈is,Fits v):bQ u {f with ints:=is}:=by
 obtain⟨q,bm,ae,aC,aT⟩:=hF.ex;exact⟨hF.proc,hF.pc,⟨q,bm,ae,by show (is.length:Int)=_;rw[hl];exact aC,aT⟩,aD,hF.aw⟩
theorem tC(hS:aS u D s)(hF:bQ u f){p:c6}(hp:u.procs[f.proc.toNat]?=some p):∀(es:List VE),(∀e∈es,fO (bh u) p.locals e)→
  ((cV s.globals f.ints es).2=0∨(cV s.globals f.ints es).2=1)∧((cV s.globals f.ints es).2=0→(cV s.globals f.ints es).1.length=es.length)∧∀v∈(cV s.globals f.ints es).1,Fits v
 | [],_=>⟨.inl rfl,fun _=>rfl,fun v h=>by simp[cV] at h⟩
 | e::es,h=>by
  obtain⟨ae,aC,aT⟩:=tC hS hF hp es fun x hx=>h x (by simp[hx]);have he:=w6 hS hF hp (h e (by simp));have a:=po s.globals f.ints e;unfold cV;split
  ·rename_i a1;exact⟨a,fun h=>absurd h a1,fun v bD=>by simp at bD⟩
  ·split
   ·rename_i a1;exact⟨ae,fun h=>absurd h a1,fun v bD=>by simp at bD⟩
   ·rename_i heq;refine⟨.inl rfl,fun _=>by simp[aC ab],fun v bD=>?_⟩;rcases J6.1 bD with rfl|bD
    ·exact he.2.2
    ·exact aT v bD
theorem rk(hU:cU u)(hF:bQ u f){nl nk:Int}(aj:nk≤f.aw.length):∀(ps:List bC),(∀p∈ps,cJ (bh u) nl nk p)→
  ((b3 u s f ps).2=0∨(b3 u s f ps).2=1∨(b3 u s f ps).2=2)∧((b3 u s f ps).2=0→(b3 u s f ps).1.length=ps.length)∧∀v∈(b3 u s f ps).1,0≤v∧v<elems u.ae
 | [],_=>⟨.inl rfl,fun _=>rfl,fun v h=>by simp[b3] at h⟩
 | p::ps,h=>by
  obtain⟨ae,aC,aT⟩:=rk hU hF aj ps fun x hx=>h x (by simp[hx]);have he:=ji (s:=s) hU hF aj (h p (by simp));unfold b3;split
  ·rename_i a1;exact⟨he.1,fun h=>absurd h a1,fun v bD=>by simp at bD⟩
  ·rename_i a;split
   ·rename_i a1;exact⟨ae,fun h=>absurd h a1,fun v bD=>by simp at bD⟩
   ·rename_i heq;refine⟨.inl rfl,fun _=>by simp[aC ab],fun v bD=>?_⟩;rcases J6.1 bD with rfl|bD
    ·exact he.2 ab
    ·exact aT v bD
theorem ra(hU:cU u){ls:List Int}{sg:Int×Int}(h0:0≤k)(hs:(bh u).sig[k.toNat]?=some sg)(al:(is.length:Int)=sg.1)(hl:(ls.length:Int)=sg.2)
  (aD:∀v∈is,Fits v) (aj:∀v∈ls,0≤v∧v<elems u.ae):bQ u (dV u k is ls):=by
 have a:(u.procs.map fun p=>(p.ints,p.aw))[k.toNat]?=some sg:=hs;rw[List.getElem?_map] at a
 cases hp:u.procs[k.toNat]? with
 | none=>rw[hp] at a;cases a
 | some p=>
  rw[hp] at a;injection a with a;subst a;simp only[] at al hl;have aY:=hU.procs p (JT hp);obtain⟨c,hc,_⟩:=aY.code;have aM:fT u k=p.locals.toNat:=by unfold fT;rw[hp];rfl
  have ae:=aY.ints;refine⟨h0,Int.le_refl _,⟨p,hp,?_,?_,hl⟩,fun v bD=>?_,aj⟩
  ·show (0:Int)<(p.code.length:Int)
   rw[hc];simp
   try omega
  ·show ((is++List.replicate (fT u k - is.length) 0).length:Int)=p.locals
   rw[aM];simp;omega
  ·rcases JZ.1 bD with bD|bD
   ·exact aD v bD
   ·rw[(List.mem_replicate.1 bD).2];exact h1
theorem Eo(hF:bQ u f){p:c6}(hp:u.procs[f.proc.toNat]?=some p)(h:f.pc+1<p.code.length):bQ u (next f):=
 pv hF hp (aH hF.pc) h
theorem ud{l:List Int}{v:Int}(h:∀x∈l,Fits x)(bD:Fits v):∀x∈l.set i v,Fits x:=by
 intro x hx;rcases List.mem_or_eq_of_mem_set hx with hx|rfl
 ·exact h x hx
 ·exact bD
theorem xa{k:Nat}(aj:k<T.length):T[k]?=some (jo T k):=by
 unfold jo;rw[Kb,List.getElem?_eq_getElem aj];rfl
theorem vx(hS:aS u D s)(h0:0≤e)(ht:0≤t∧t<s.threads.length)(H:free u.ae s.table e t=true):
  ∀i h,(s.table.set e.toNat ⟨t+1,(jo s.table e).depth+1⟩)[i]?=some h→jN u s.threads.length (D+1) i h:=by
 intro i h al;rw[List.getElem?_set] at al;split at al
 ·rename_i heq;subst heq;split at al
  ·rename_i aw;injection al with al;subst al;have aJ:=xa (T:=s.table) aw;rw[show ((e.toNat:Nat):Int)=e by omega] at aJ;have a8:=hS.holds _ _ aJ;refine⟨⟨by show 0≤t+1;omega,by show t+1≤_;omega⟩,⟨by have:=a8.depth.1;show 0≤_+1;omega,by have:=a8.depth.2;show _+1≤((D+1:Nat):Int);omega⟩,?_,fun h=>?_⟩
   ·have:=a8.depth.1;show t+1=0↔(jo s.table e).depth+1=0
    omega
   ·have q:1<(jo s.table e).depth+1:=h;rw[show ((e.toNat:Nat):Int)=e by omega];unfold free at H;simp only[J2,Bool.or_eq_true,beq_iff_eq,Kk] at H;rcases H.2 with aC|aC
    ·have:=a8.Gx.1 aC;omega
    ·exact aC.2
  ·cases al
 ·exact(hS.holds i h al).mono (JQ _) ab
theorem sS(hS:aS u D s)(aQ:heldBy u.ae s.table e t=true):
  ∀i h,(s.table.set e.toNat (down (jo s.table e)))[i]?=some h→jN u s.threads.length D i h:=by
 intro i h al;unfold heldBy at aQ;simp only[J2,beq_iff_eq,Kk] at aQ;rw[List.getElem?_set] at al;split at al
 ·rename_i heq;subst heq;split at al
  ·rename_i aw;injection al with al;subst al;have h0:=(iM.1 aQ.1.1).1;have aJ:=xa (T:=s.table) aw;rw[show ((e.toNat:Nat):Int)=e by omega] at aJ;have a8:=hS.holds _ _ aJ;have hd:(jo s.table e).depth≠0:=fun h=>by have:=a8.Gx.2 h;omega
   have:=a8.depth;have S:=a8.owner;unfold down;refine⟨?_,⟨by show 0≤_ - 1;omega,by show _ - 1≤_;omega⟩,?_,fun h=>a8.re (by have q:1<(jo s.table e).depth - 1:=h;omega)⟩
   ·simp only[];split<;>omega
   ·simp only[];split<;>omega
  ·cases al
 ·exact hS.holds i h al
theorem nY(a b:Int)(m:Bool)(aV:0≤a∧a≤4)(O:0≤b∧b≤4):0≤bO a b m∧bO a b m≤4:=by
 unfold bO
 repeat' split
 all_goals omega
theorem o2(a b:Int)(m:Bool)(h:bO a b m=0):a=0∧b=0∧m=false:=by
 unfold bO at h;by_cases aV:a=0
 ·by_cases O:b=0
  ·cases m
   ·exact⟨aV,O,rfl⟩
   ·simp[aV,O] at h
  ·simp[aV,O] at h
 ·simp[aV] at h
theorem Du(hU:cU u)(hS:aS u D s):aS u (D+1) (cd u s t).1:=by
 unfold cd
 cases ht:dE s t with
 | none=>exact hS.mono ab
 | some f=>
  obtain⟨hF,cZ,bZ⟩:=hS.top ht;obtain⟨p,x,hp,aY,hx,len,hlen,al,fg⟩:=pA hU hF;have b:dg u s t=some x:=by unfold dg;rw[ht];simp[hp,hx]
  rw[b];simp only[];obtain⟨q,bm,_,aM,be⟩:=hF.ex;have o:p=q:=by rw[hp] at bm;injection bm
  subst o;have aD:aS u (D+1) s:=hS.mono ab;have hN:x.op≠8→bQ u (next f):=fun h=>Eo hF hp (fg h);unfold cj;rcases al with⟨ae,⟨e,he,a8⟩,aC,aT,a9⟩|⟨ae,aJ,sg,aC,aT,a9,cl,m,g⟩|⟨ae,aJ,aC⟩|⟨ae,aJ,⟨e,he,a8⟩,aC,aT⟩|⟨ae,aJ,aC,aT⟩|⟨ae,aJ⟩
  ·
   have a2:=w6 hS hF hp a8;have a:=po s.globals f.ints e;rw[if_pos (.inl ae),he];simp only[Option.getD_some];split
   ·exact aD.pq ab
   ·rw[if_neg ab]
    cases bN:x.c8 with
    | true=>
     simp only[if_true];have:=gE aD ht (hN ab)
     exact⟨this.ys,this.fq,by show (s.globals.set _ _).length=_;rw[List.length_set];exact hS.c8,ud hS.ml a2.2.2,this.table,this.holds,this.fault⟩
    | false=>
     simp only[Kl,if_false];exact gE aD ht (vm (hN ab) (List.length_set ..) (ud hF.fits a2.2.2))
  ·
   have hI:=tC hS hF hp x.ints m;have bR:=rk (s:=s) hU hF ab x.places g;rw[if_neg ab,if_pos ae];simp only[];by_cases a1:bO (cV s.globals f.ints x.ints).2 (b3 u s f x.places).2 (decide (x.op=3∧32≤s.threads.length))≠0
   ·rw[if_pos a1];exact aD.pq (nY _ _ _ ab ab)
   ·rw[if_neg a1];obtain⟨aV,O,hm⟩:=o2 _ _ _ (Classical.not_not.1 a1);have H:=ra hU (k:=x.target) aC aT (by rw[hI.2.1 aV];exact a9) (by rw[bR.2.1 O];exact cl) hI.2.2 bR.2.2;have hT:=gE aD ht (hN ab);by_cases l:x.op=3
    ·rw[if_pos l];have R:s.threads.length<32:=by
      simp only[decide_eq_false_iff_not,not_and] at hm;have:=hm l;omega
     have hl:(bH s t (next f)).threads.length=s.threads.length:=List.length_modify ..;refine⟨?_,fun y a4=>?_,hT.c8,hT.ml,hT.table,fun i y a4=>?_,hT.fault⟩
     ·simp only[JS,J1,hl];omega
     ·rcases JZ.1 a4 with a4|a4
      ·exact hT.fq y a4
      ·have:y=[dV u x.target (cV s.globals f.ints x.ints).1 (b3 u s f x.places).1]:=by simpa using a4
       subst this;refine⟨by simp,fun z bi=>?_⟩;have:z=dV u x.target (cV s.globals f.ints x.ints).1 (b3 u s f x.places).1:=by simpa using bi
       subst this;exact H
     ·refine(hT.holds i y a4).mono ?_ (JQ _);simp only[JS];omega
    ·rw[if_neg l];exact Dg (gE hS ht (hN ab)) H
  ·
   have aF:=ji (s:=s) hU hF ab aC;rw[if_neg ab,if_neg ab,if_pos ae];simp only[];split
   ·refine aD.pq ?_;rcases aF.1 with h|h|h<;>omega
   ·rename_i heq;have aU:=aF.2 ab;have hT:=gE aD ht (hN ab);have hl:(bH s t (next f)).threads.length=s.threads.length:=List.length_modify ..;split
    ·split
     ·rename_i H;refine⟨hT.ys,hT.fq,hT.c8,hT.ml,by show (hq _ _ _ _).length=_;rw[jO];exact hS.table,fun i y a4=>?_,hT.fault⟩;show jN u (bH s t (next f)).threads.length (D+1) i y
      rw[hl];refine vx hS aU.1 ⟨cZ,bZ⟩ H i y ?_;have d:(hq u.ae s.table (bk u s f x.place).1 t)[i]?=some y:=a4;unfold hq at d;rw[if_pos H] at d;exact d
     ·exact aD
    ·split
     ·rename_i aQ;refine⟨hT.ys,hT.fq,hT.c8,hT.ml,by show (dI _ _ _ _).length=_;rw[iy];exact hS.table,fun i y a4=>?_,hT.fault⟩;show jN u (bH s t (next f)).threads.length (D+1) i y
      rw[hl];refine(sS hS aQ i y ?_).mono (JQ _) ab;have d:(dI u.ae s.table (bk u s f x.place).1 t)[i]?=some y:=a4;unfold dI at d;rw[if_pos aQ] at d;exact d
     ·exact aD.pq ab
  ·
   have a:=po s.globals f.ints e;rw[if_pos (.inr ae),he];simp only[Option.getD_some];split
   ·exact aD.pq ab
   ·try rw[if_pos ae]
    refine gE aD ht ?_;split
    ·exact pv hF hp aC (by rw[hlen];omega)
    ·exact hN ab
  ·rw[if_neg ab,if_neg ab,if_neg ab,if_pos ae];exact gE aD ht (pv hF hp aC (by rw[hlen];omega))
  ·rw[if_neg ab,if_neg ab,if_neg ab,if_neg ab];exact Ex aD
theorem sx(hU:cU u):aS u 0 (ew u):=by
 obtain⟨p,h0,hp,al,hl⟩:=hU.main;have aD:bQ u (dV u u.main [] []):=by
  refine ra hU h0 (sg:=(0,0)) ?_ rfl rfl (fun v bD=>by simp at bD) (fun v bD=>by simp at bD);show (u.procs.map fun p=>(p.ints,p.aw))[u.main.toNat]?=_
  rw[List.getElem?_map,hp];simp[al,hl]
 refine⟨by show 1≤[[dV u u.main [] []]].length∧_;simp[ew],fun t ht=>?_,rfl,fun v bD=>?_,by simp[ew],fun i h al=>?_,by simp[ew]⟩
 ·have:t=[dV u u.main [] []]:=by simpa[ew] using ht
  subst this;refine⟨by simp,fun x hx=>?_⟩;have:x=dV u u.main [] []:=by simpa using hx
  subst this;exact aD
 ·have:=hU.globals v bD;unfold Fits;omega
 ·have K:(List.replicate (own u.ae).length (⟨0,0⟩:db))[i]?=some h:=al;rw[List.getElem?_replicate] at K;split at K
  ·injection K with K;subst K;exact⟨⟨by simp,by simp⟩,⟨by simp,by simp⟩,by simp,fun h=>by simp at h⟩
  ·cases K
end
def dF(u:av)(s:ah)(t:Int):Option (Int×Int):=
 match dE s t,dg u s t with
 | some f,some x=>if x.op=4 then
   if (bk u s f x.place).2≠0 then none else if free u.ae s.table (bk u s f x.place).1 t=true then none
   else some ((bk u s f x.place).1,(jo s.table (bk u s f x.place).1).owner - 1) else none
 | _,_=>none
def xM(u:av)(s:ah)(t:Int):Bool:=(dg u s t).isSome && (dF u s t).isNone
def kq:Option (Int×Int)→Int
 | none=>-1
 | some r=>r.2
def cL(u:av)(s:ah):List Int:=(List.range s.threads.length).map fun t:Nat=>kq (dF u s (t:Int))
section
variable {u:av} {D:Nat} {s:ah} {t:Int}
theorem nI(h:dE s t=none):dg u s t=none:=by unfold dg;rw[h];rfl
theorem wq(h:dE s t=none):dF u s t=none:=by unfold dF;rw[h]
theorem jX(h:dF u s t=some r):∃f x,dE s t=some f∧dg u s t=some x∧x.op=4∧(bk u s f x.place).2=0∧free u.ae s.table (bk u s f x.place).1 t=false∧
  r=((bk u s f x.place).1,(jo s.table (bk u s f x.place).1).owner - 1):=by
 unfold dF at h;split at h
 ·rename_i f x aD hx;split at h
  ·rename_i aE;split at h
   ·cases h
   ·rename_i E;split at h
    ·cases h
    ·rename_i H;injection h with h;exact⟨f,x,aD,hx,aE,ab,by simpa using H,h.symm⟩
  ·cases h
 ·cases h
theorem Ea(hU:cU u)(hS:aS u D s):xM u s t=(cd u s t).2:=by
 unfold xM dF cd
 cases aD:dE s t with
 | none=>rw[nI aD];rfl
 | some f=>
  cases hx:dg u s t with
  | none=>rfl
  | some x=>
   simp only[Option.isSome_some,Bool.true_and];unfold cj;by_cases ae:x.op=1∨x.op=6
   ·rw[if_pos ae,if_neg ab];simp only[]
    repeat' split
    all_goals rfl
   ·rw[if_neg ae];by_cases aC:x.op=2∨x.op=3
    ·rw[if_pos aC,if_neg ab];simp only[]
     repeat' split
     all_goals rfl
    ·rw[if_neg aC];by_cases a9:x.op=4
     ·rw[if_pos a9,if_pos (Or.inl a9)];simp only[a9,if_true]
      repeat' split
      all_goals first|rfl|simp_all
     ·rw[if_neg a9];simp only[]
      repeat' split
      all_goals first|rfl|omega
theorem iL:(cL u s).length=s.threads.length:=by simp[cL]
theorem xS(hS:aS u D s)(e:Int):0≤(jo s.table e).owner∧(jo s.table e).owner≤s.threads.length:=by
 unfold jo
 cases h:s.table[e.toNat]? with
 | none=>simp
 | some x=>simpa using (hS.holds _ x h).owner
theorem vp(hS:aS u D s):dp (cL u s):=by
 intro x hx;obtain⟨k,aj,rfl⟩:=Ke.1 hx;rw[iL];have hn:=hS.ys
 cases h:dF u s (k:Int) with
 | none=>simp only[kq];omega
 | some r=>
  obtain⟨f,x,_,_,_,_,_,rfl⟩:=jX h;have:=xS hS (bk u s f x.place).1;simp only[kq];omega
def jQ:VE→Prop
 | .ia _=>False
 | .un _ x=>jQ x
 | .bin _ x y=>jQ x∧jQ y
 | _=>True
theorem kO(g ai l:List Int):∀x:VE,jQ x→ev g l x=ev ai l x
 | .num _,_=>rfl
 | .gy _,_=>rfl
 | .loc _,_=>rfl
 | .ia _,h=>h.elim
 | .un op x,h=>by
  have ao:=kO g ai l x h
  simp only[ev,ao]
 | .bin op x y,h=>by
  have i:=kO g ai l x h.1;have c:=kO g ai l y h.2;simp only[ev,i,c]
structure wF(u:av)(s:ah)(t e o:Int):Prop where
 waits:dF u s t=some (e,o)
 o0:0≤o
 jQ:∀x v,dg u s t=some x→x.place.at_=some v→jQ v
theorem vi{f:an}{p:bC}(h:∀v,p.at_=some v→jQ v):bk u aV f p=bk u s f p:=by
 have al:cI u aV f p=cI u s f p:=by
  unfold cI
  cases hp:p.at_ with
  | none=>rfl
  | some v=>simp only[kO aV.globals s.globals f.ints v (h v hp)]
 unfold bk;rw[al]
theorem wF.aj(h:wF u s t e o)(ht:dE aV t=dE s t)(aQ:jo aV.table e=jo s.table e):wF u aV t e o:=by
 obtain⟨f,x,aD,hx,aE,E,H,aU⟩:=jX h.waits;have g:dg u aV t=some x:=by
  unfold dg at hx ⊢;rw[ht];exact hx
 have he:=vi (u:=u) (s:=s) (aV:=aV) (f:=f) (p:=x.place) fun v bD=>h.jQ x v hx bD;injection aU with ar bI;refine⟨?_,h.o0,fun y v a4 bD=>?_⟩
 ·unfold dF;rw[ht,aD,g];simp only[];rw[if_pos aE,he,if_neg ab];have a:free u.ae aV.table (bk u s f x.place).1 t=false:=by
   rw[←ar];rw[←ar] at H;unfold free at H ⊢;rw[aQ];exact H
  rw[if_neg (by simp[a]),←ar,aQ,←ar] at *;simp[bI]
 ·rw[g] at a4;injection a4 with a4;subst a4;exact h.jQ x v hx bD
theorem hz{l:List (List an)}{j:Nat}{g:List an→List an}(h:i≠j):(l.modify i g)[j]?=l[j]?:=by
 rw[List.getElem?_modify]
 cases l[j]? with
 | none=>rfl
 | some y=>simp[h]
theorem uq{s:ah}(aD:aV.fault=s.fault)(h:aV.threads[t.toNat]?=s.threads[t.toNat]?):dE aV t=dE s t:=by
 unfold dE;rw[aD,h]
theorem v5(hU:cU u)(ht:0≤t∧t<s.threads.length)(hp:p≠t)(bF:s.fault=0)(aD:(cd u s p).1.fault=0):dE (cd u s p).1 t=dE s t:=by
 refine uq (aD.trans bF.symm) ?_;unfold cd at aD ⊢
 cases bm:dE s p with
 | none=>rfl
 | some f=>
  have i:0≤p:=(jx bm).2.1;have a1:p.toNat≠t.toNat:=ab
  cases hx:dg u s p with
  | none=>rfl
  | some x=>
   simp only[];unfold cj;simp only[]
   repeat' split
   all_goals simp only[bH,pY,yf]
   all_goals first
    | rfl
    | exact hz a1
    | (rw[hz a1];exact hz a1)
    | (rw[List.getElem?_append_left (by rw[List.length_modify];omega)];exact hz a1)
theorem CW(h0:0≤br X e∨True)(he:0≤e)(a8:(jo T e).owner≠0)(hp:(jo T e).owner≠p+1):jo (hq X T l p) e=jo T e:=by
 unfold hq;split
 ·rename_i H;by_cases g:l=e
  ·subst g;unfold free at H;simp[a8,hp] at H
  ·have a:0≤l:=by
    unfold free at H;simp only[J2,Kk] at H;exact(iM.1 H.1.1).1
   unfold jo;rw[List.getElem?_set_ne ab]
 ·rfl
theorem wo(he:0≤e)(hp:(jo T e).owner≠p+1):jo (dI X T l p) e=jo T e:=by
 unfold dI;split
 ·rename_i aQ;by_cases g:l=e
  ·subst g;unfold heldBy at aQ;simp[hp] at aQ
  ·have a:0≤l:=by
    unfold heldBy at aQ;simp only[J2,Kk] at aQ;exact(iM.1 aQ.1.1).1
   unfold jo;rw[List.getElem?_set_ne ab]
 ·rfl
theorem v7(he:0≤e)(a8:(jo s.table e).owner≠0)(hp:(jo s.table e).owner≠p+1):jo (cd u s p).1.table e=jo s.table e:=by
 unfold cd
 cases bm:dE s p with
 | none=>rfl
 | some f=>
  cases hx:dg u s p with
  | none=>rfl
  | some x=>
   simp only[];unfold cj;simp only[]
   repeat' split
   all_goals first
    | rfl
    | exact CW (.inr trivial) he a8 hp
    | exact wo he hp
theorem lW(h:(cd u s t).2=false):(cd u s t).1=s:=by
 unfold cd at h ⊢
 cases bm:dE s t with
 | none=>rfl
 | some f=>
  cases hx:dg u s t with
  | none=>rfl
  | some x=>
   rw[bm,hx] at h;simp only[] at h ⊢;unfold cj at h ⊢;simp only[] at h ⊢
   repeat' split
   all_goals first
    | rfl
    | (exfalso;simp_all;done)
    | (exfalso;revert h;repeat' split;all_goals simp_all)
theorem ux(hU:cU u)(hS:aS u D s)(h:dF u s t=some (e,o)):0≤e∧(jo s.table e).owner=o+1∧0≤t∧t<s.threads.length:=by
 obtain⟨f,x,aD,hx,aE,E,H,aU⟩:=jX h;injection aU with ar bI;have ht:=hS.top aD;refine⟨?_,by rw[ar];omega,ht.2.1,ht.2.2⟩;obtain⟨p,y,hp,aY,a4,len,hlen,al,_⟩:=pA hU ht.1;have c:x=y:=by
  unfold dg at hx;rw[aD] at hx;simp only[Option.bind_some,hp,a4,Ki] at hx;exact hx.symm
 subst c;obtain⟨q,bm,_,_,aj⟩:=ht.1.ex;rw[hp] at bm;injection bm with bm;subst bm;have bb:cJ (bh u) p.locals p.aw x.place:=by
  rcases al with⟨ae,_⟩|⟨ae,_⟩|⟨ae,_,aC⟩|⟨ae,_⟩|⟨ae,_⟩|⟨ae,_⟩
  ·omega
  ·omega
  ·exact aC
  ·omega
  ·omega
  ·omega
 have:=(ji (s:=s) hU ht.1 ab bb).2 ab;rw[ar];exact this.1
theorem sT(h:dF u s t=some r):xM u s t=false:=by unfold xM;rw[h];simp
def oL(u:av)(s:ah)(d:List Int):Prop:=∀t∈d,∃e o,wF u s t e o∧o∈d
theorem oL.step{d:List Int}(hU:cU u)(hS:aS u D s)(h:oL u s d)(p:Int)(aD:(cd u s p).1.fault=0):oL u (cd u s p).1 d:=by
 by_cases hp:p∈d
 ·obtain⟨e,o,hs,_⟩:=h p hp;rw[lW (by rw[←Ea hU hS];exact sT hs.waits)];exact h
 ·intro t ht;obtain⟨e,o,hs,a8⟩:=h t ht;obtain⟨f,x,ay,_⟩:=jX hs.waits;obtain⟨ae,aC,aT,a9⟩:=ux hU hS hs.waits;have a:p≠t:=fun e=>hp (by rw[e];exact ht);have i:p≠o:=fun e=>hp (by rw[e];exact a8);have h0:=hs.o0;exact⟨e,o,hs.aj (v5 hU ⟨aT,a9⟩ a (jx ay).1 aD) (v7 ae ab ab),a8⟩
def m6(u:av)(s:ah):Bool:=(List.range s.threads.length).all fun t=>!xM u s (t:Int)
end
def iB(u:av):ah→List Int→ah
 | s,[]=>s
 | s,t::l=>iB u (cd u s t).1 l
def jy(u:av):ah→List Int→List Int
 | _,[]=>[]
 | s,t::l=>(if (cd u s t).2 then [t] else [])++jy u (cd u s t).1 l
section
variable {u:av} {D:Nat}
theorem tY:∀(l m:List Int) (s:ah),iB u s (l++m)=iB u (iB u s l) m
 | [],_,_=>rfl
 | t::l,m,s=>tY l m _
theorem uv:∀(l m:List Int) (s:ah),jy u s (l++m)=jy u s l++jy u (iB u s l) m
 | [],_,_=>rfl
 | t::l,m,s=>by
  rw[J5,jy,jy,iB,uv l m,J4]
theorem GS(l:List Int):∀s:ah,(jy u s l).length≤l.length:=by
 induction l with
 | nil=>intro s;exact JQ _
 | cons t l ao=>
  intro s;have:=ao (cd u s t).1;rw[jy,JS,J3];split<;>simp<;>omega
theorem sL(hU:cU u):∀(l:List Int) (D:Nat) (s:ah),aS u D s→aS u (D+l.length) (iB u s l)
 | [],_,_,h=>h
 | t::l,D,s,h=>by
  have:=sL hU l (D+1) _ (Du (t:=t) hU h);rw[J3,show D+(l.length+1)=D+1+l.length by omega];exact this
end
end Go.Proofs.YtbkhhfajcgkpgaaGreat
