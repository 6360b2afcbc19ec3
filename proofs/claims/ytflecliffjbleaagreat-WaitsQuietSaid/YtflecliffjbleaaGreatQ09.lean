/- Part 9 of the proof. No condition of its own. -/
import Derived.Test.YtflecliffjbleaaGreatQ03
import Derived.Test.YtflecliffjbleaaGreatQ08
namespace Go.Proofs.YtflecliffjbleaaGreat
open Go.RowKit Go.Proofs.Tryz
set_option maxRecDepth 1000000
set_option maxHeartbeats 25600000
set_option linter.unusedVariables false
variable{e k l o p:Int}{r:Int×Int}{is:List Int}{fs:List al}{X:List bF}{T:List dn}{i:Nat}{a7:ag}
def da(s:ag)(t:Int):Option al:=if s.fault≠0\/t<0 then none else (s.threads[t.toNat]?).bind List.getLast?
def cV(u:av)(s:ag)(t:Int):Option ay:=(da s t).bind λf=>(u.procs[f.proc.toNat]?).bind λp=>p.code[f.pc.toNat]?
def cO(u:av)(s:ag)(f:al)(p:bJ):Int×Int:=
 match p.at_ with
 | none=>(0,0)
 | some e=>idx (((u.ae[p.index.toNat]?).map bF.size).getD 0) (ev s.globals f.ints e)
def bp(u:av)(s:ag)(f:al)(p:bJ):Int×Int:=
 if p.param then (f.aw.getD p.index.toNat 0,0)
 else if (cO u s f p).2≠0 then (0,(cO u s f p).2) else (eP u.ae p.index+(cO u s f p).1,0)
def xS(u:av)(s:ag)(t:Int)(p:bJ):Int×Int:=match da s t with
 | none=>(0,0)
 | some f=>bp u s f p
def db(g l:List Int):List VE->List Int×Int
 | []=>([],0)
 | e::es=>if (ev g l e).2≠0 then ([],(ev g l e).2) else if (db g l es).2≠0 then ([],(db g l es).2) else ((ev g l e).1::(db g l es).1,0)
def cf(u:av)(s:ag)(f:al):List bJ->List Int×Int
 | []=>([],0)
 | p::ps=>if (bp u s f p).2≠0 then ([],(bp u s f p).2) else if (cf u s f ps).2≠0 then ([],(cf u s f ps).2) else ((bp u s f p).1::(cf u s f ps).1,0)
def gg(u:av)(k:Int):Nat:=(((u.procs[k.toNat]?).map di.locals).getD 0).toNat
def ef(u:av)(k:Int)(is ls:List Int):al:=⟨k,0,is++List.replicate (gg u k - is.length) 0,ls⟩
def eK(u:av):ag:=⟨u.globals,List.replicate (own u.ae).length ⟨0,0⟩,[[ef u u.main [] []]],0⟩
def bO(s:ag)(t:Int)(f:al):ag:={s with threads:=s.threads.modify t.toNat λfs=>fs.dropLast++[f]}
def qI(s:ag)(t:Int)(f:al):ag:={s with threads:=s.threads.modify t.toNat λfs=>fs++[f]}
def y5(s:ag)(t:Int):ag:={s with threads:=s.threads.modify t.toNat List.dropLast}
def next(f:al):al:={f with pc:=f.pc+1}
def bY(a b:Int)(many:Bool):Int:=if a≠0 then a else if b≠0 then b else if many then 4 else 0
def cu(u:av)(s:ag)(t:Int)(f:al)(x:ay):ag×Bool:=
 if x.op=1\/x.op=6 then
  let r:=ev s.globals f.ints (x.expr.getD (.num 0))
  if r.2≠0 then ({s with fault:=r.2},true)
  else if x.op=6 then (bO s t (if r.1=0 then {f with pc:=x.target} else next f),true)
  else if x.dw then ({bO s t (next f) with globals:=s.globals.set x.target.toNat r.1},true)
  else (bO s t {next f with ints:=f.ints.set x.target.toNat r.1},true)
 else if x.op=2\/x.op=3 then
  let a:=db s.globals f.ints x.ints
  let b:=cf u s f x.places
  let e:=bY a.2 b.2 (decide (x.op=3/\32<=s.threads.length))
  if e≠0 then ({s with fault:=e},true)
  else if x.op=3 then ({bO s t (next f) with threads:=(bO s t (next f)).threads++[[ef u x.target a.1 b.1]]},true)
  else (qI (bO s t (next f)) t (ef u x.target a.1 b.1),true)
 else if x.op=4\/x.op=5 then
  let r:=bp u s f x.place
  if r.2≠0 then ({s with fault:=r.2},true)
  else if x.op=4 then (if free u.ae s.table r.1 t then ({bO s t (next f) with table:=hL u.ae s.table r.1 t},true) else (s,false))
  else (if heldBy u.ae s.table r.1 t then ({bO s t (next f) with table:=dO u.ae s.table r.1 t},true) else ({s with fault:=3},true))
 else if x.op=7 then (bO s t {f with pc:=x.target},true)
 else (y5 s t,true)
def b9(u:av)(s:ag)(t:Int):ag×Bool:=match da s t,cV u s t with
 | some f,some x=>cu u s t f x
 | _,_=>(s,false)
theorem o2:∀x:VE,x.lit->x.fit
 | .num n,h=>by
  have q:0<=n/\n<=9223372036854775807:=h;show Fits n
  unfold Fits;omega
 | .gT _,_=>trivial
 | .loc _,_=>trivial
 | .iz _,_=>trivial
 | .un _ x,h=>o2 x h
 | .bin _ x y,h=>⟨o2 x h.1,o2 y h.2⟩
structure b0(u:av)(f:al):Prop where
 proc:0<=f.proc
 pc:0<=f.pc
 ex:∃p,u.procs[f.proc.toNat]?=some p/\f.pc<p.code.length/\(f.ints.length:Int)=p.locals/\(f.aw.length:Int)=p.aw
 fits:∀v∈f.ints,Fits v
 aw:∀k∈f.aw,0<=k/\k<elems u.ae
structure j2(u:av)(n D:Nat)(i:Nat)(h:dn):Prop where
 owner:0<=h.owner/\h.owner<=n
 depth:0<=h.depth/\h.depth<=D
 Hx:h.owner=0↔h.depth=0
 re:1<h.depth->Fz u.ae (bw u.ae i)=true
structure aS(u:av)(D:Nat)(s:ag):Prop where
 zi:1<=s.threads.length/\s.threads.length<=32
 fE:∀t∈s.threads,t.length<=D+1/\∀f∈t,b0 u f
 dw:s.globals.length=u.globals.length
 mV:∀v∈s.globals,Fits v
 table:s.table.length=(own u.ae).length
 holds:∀i h,s.table[i]?=some h->j2 u s.threads.length D i h
 fault:0<=s.fault/\s.fault<=4
theorem j2.mono{u:av}{n a5 D j:Nat}{h:dn}(aH:j2 u n D i h)(hn:n<=a5)(hD:D<=j):j2 u a5 j i h:=
 ⟨⟨aH.owner.1,by have:=aH.owner.2;omega⟩,⟨aH.depth.1,by have:=aH.depth.2;omega⟩,aH.Hx,aH.re⟩
section
variable {u:av} {D:Nat} {s:ag} {t:Int} {f:al}
theorem jN(h:da s t=some f):s.fault=0/\0<=t/\∃fs,s.threads[t.toNat]?=some (fs++[f]):=by
 unfold da at h;split at h
 .cases h
 .rename_i hc;refine⟨ab,ab,?_⟩
  cases br:s.threads[t.toNat]? with
  | none=>rw[br] at h;cases h
  | some l=>
   rw[br] at h;have q:l.getLast?=some f:=h;obtain⟨a2,rfl⟩:=List.getLast?_eq_some_iff.1 q;exact⟨a2,rfl⟩
theorem aS.top(hS:aS u D s)(h:da s t=some f):b0 u f/\0<=t/\t<s.threads.length:=by
 obtain⟨_,h0,fs,br⟩:=jN h;have aw:=(List.getElem?_eq_some_iff.1 br).1;exact⟨(hS.fE _ (Le br)).2 f (by simp),h0,ab⟩
theorem kO(hU:cP u)(hF:b0 u f):∃p x,u.procs[f.proc.toNat]?=some p/\qH (bj u) p/\p.code[f.pc.toNat]?=some x/\∃len:Nat,p.code.length=len+1/\hR (bj u) p.locals p.aw len x/\(x.op≠8->f.pc+1<p.code.length):=by
 obtain⟨p,hp,cX,_,_⟩:=hF.ex;have aY:=hU.procs p (Le hp);obtain⟨c,hc,_,ai⟩:=aY.code;have h0:=hF.pc;have hlen:p.code.length=c.length+1:=by rw[hc];simp
 have hx:p.code[f.pc.toNat]?=some (p.code[f.pc.toNat]'ab):=List.getElem?_eq_getElem _;refine⟨p,_,hp,aY,hx,c.length,hlen,?_⟩;by_cases aw:f.pc.toNat<c.length
 .have he:p.code[f.pc.toNat]'ab=c[f.pc.toNat]:=by
   simp only[hc];exact List.getElem_append_left aw
  rw[he];exact⟨ai _ (List.getElem_mem _),λ_=>ab⟩
 .have he:p.code[f.pc.toNat]'ab=nD:=by
   simp only[hc];rw[List.getElem_append_right ab];simp
  rw[he];exact⟨.inr (.inr (.inr (.inr (.inr ⟨rfl,rfl⟩)))),λh=>absurd rfl h⟩
theorem xU(hS:aS u D s)(hF:b0 u f){p:di}(hp:u.procs[f.proc.toNat]?=some p){e:VE}(he:fY (bj u) p.locals e):
  e.ok s.globals.length f.ints.length/\n7 s.globals f.ints e/\Fits (ev s.globals f.ints e).1:=by
 obtain⟨q,br,_,hl,_⟩:=hF.ex;rw[hp] at br;injection br with br;subst br;have ae:e.ok s.globals.length f.ints.length:=by
  rw[hS.dw];have:=he.1;rw[show p.locals.toNat=f.ints.length by omega] at this;exact this
 have i:=o2 e he.2;exact⟨ae,⟨hS.mV,hF.fits,i⟩,sU hS.mV hF.fits e i⟩
end
theorem cP.EH{u:av}(h:cP u):q9 u.ae:=⟨by have:=h.yY;omega,h.gy⟩
theorem C1(op a b:Int):(arith op a b).2=0\/(arith op a b).2=1:=by
 unfold arith
 repeat' split
 all_goals simp
theorem p1(g l:List Int):∀x:VE,(ev g l x).2=0\/(ev g l x).2=1
 | .num _=>.inl rfl
 | .gT _=>.inl rfl
 | .loc _=>.inl rfl
 | .iz _=>.inl rfl
 | .un op x=>by
  have ao:=p1 g l x;unfold ev
  repeat' split
  all_goals first|exact ao|exact .inl rfl
 | .bin op x y=>by
  have i:=p1 g l x;have c:=p1 g l y;unfold ev
  repeat' split
  all_goals first|exact i|exact c|exact .inl rfl|exact C1 _ _ _
theorem Fe(m:Int)(r:Int×Int)(h:r.2=0\/r.2=1):(idx m r).2=0\/(idx m r).2=1\/(idx m r).2=2:=by
 unfold idx
 repeat' split
 all_goals simp
 all_goals omega
theorem Hw(m:Int)(r:Int×Int)(h:(idx m r).2=0):0<=(idx m r).1/\(idx m r).1<m:=by
 unfold idx at h ⊢;split at h
 .rename_i ae;exact absurd h ae
 .split at h
  .simp at h
  .rename_i ae aD;rw[if_neg ae,if_neg aD];simp only[];omega
section
variable {u:av} {D j:Nat} {s:ag} {t:Int} {f a9:al}
theorem iu(hU:cP u)(hF:b0 u f){p:bJ}{nl nk:Int}(ai:nk<=f.aw.length)(hp:cI (bj u) nl nk p):
  ((bp u s f p).2=0\/(bp u s f p).2=1\/(bp u s f p).2=2)/\((bp u s f p).2=0->0<=(bp u s f p).1/\(bp u s f p).1<elems u.ae):=by
 unfold bp;rcases hp with⟨ae,aD,aU,a1⟩|⟨ae,m,aD,aU,a1,cd⟩
 .rw[if_pos ae];refine⟨.inl rfl,λ_=>?_⟩;have aw:p.index.toNat<f.aw.length:=ab;have:f.aw.getD p.index.toNat 0=f.aw[p.index.toNat]:=by rw[List.getD_eq_getElem?_getD,List.getElem?_eq_getElem aw];rfl
  simp only[this];exact hF.aw _ (List.getElem_mem _)
 .rw[if_neg (by simp[ae])];have hm:u.ae[p.index.toNat]?=some m:=aU;have U:=hU.gy m (Le hm);obtain⟨i,ak⟩:=Lg aD;rw[ak,Lw] at hm;have aw:=(List.getElem?_eq_some_iff.1 hm).1;have O:eP u.ae p.index=elems (u.ae.take i):=by rw[ak];exact ny aw
  have h0:=(hU.EH).mJ i;have K:elems (u.ae.take i)+m.num<=elems u.ae:=by
   have:=rn u.ae (i+1);rw[List.take_add_one,hm] at this;simp only[Option.toList_some,iv] at this;exact this
  have b:=m.o9;have a:((cO u s f p).2=0\/(cO u s f p).2=1\/(cO u s f p).2=2)/\((cO u s f p).2=0->0<=(cO u s f p).1/\(cO u s f p).1<m.num):=by
   unfold cO;by_cases ba:0<m.size
   .obtain⟨e,he,_⟩:=a1 ba;have F:((u.ae[p.index.toNat]?).map bF.size).getD 0=m.size:=by rw[ak,Lw,hm];rfl
    rw[he];simp only[F];refine⟨Fe _ _ (p1 _ _ _),λh=>?_⟩;have:=Hw _ _ h;unfold bF.num;omega
   .rw[cd ba];refine⟨.inl rfl,λ_=>⟨Int.le_refl _,?_⟩⟩;simp only[];omega
  split
  .rename_i a6;exact⟨a.1,λh=>absurd h a6⟩
  .rename_i heq;refine⟨.inl rfl,λ_=>?_⟩;have:=a.2 ab;simp only[O];omega
theorem qp{α:Type}{l:List α}{g:α->α}{x:α}(h:x∈l.modify i g):x∈l\/∃y,l[i]?=some y/\x=g y:=by
 obtain⟨k,ai⟩:=List.getElem?_of_mem h;rw[List.getElem?_modify] at ai;split at ai
 .rename_i heq;subst heq
  cases a4:l[i]? with
  | none=>rw[a4] at ai;cases ai
  | some y=>
   rw[a4] at ai;exact .inr ⟨y,rfl,by simpa using ai.symm⟩
 .exact .inl (Le (by simpa using ai))
theorem aS.mono(h:aS u D s)(hD:D<=j):aS u j s:=
 ⟨h.zi,λt ht=>⟨by have:=(h.fE t ht).1;omega,(h.fE t ht).2⟩,h.dw,h.mV,h.table,λi x hx=>(h.holds i x hx).mono (Lb _) hD,h.fault⟩
theorem aS.p2(h:aS u D s)(he:0<=e/\e<=4):aS u D {s with fault:=e}:=
 ⟨h.zi,h.fE,h.dw,h.mV,h.table,h.holds,he⟩
theorem aS.threads(h:aS u D s)(g:List al->List al)(aK:∀fs,s.threads[t.toNat]?=some fs->(g fs).length<=j+1/\∀f∈g fs,b0 u f)(hD:D<=j) :
  aS u j {s with threads:=s.threads.modify t.toNat g}:=by
 have hl:(s.threads.modify t.toNat g).length=s.threads.length:=List.length_modify ..;refine⟨by show 1<=(s.threads.modify t.toNat g).length/\_<=32;rw[hl];exact h.zi,λx hx=>?_,h.dw,h.mV,h.table,λi x hx=>?_,h.fault⟩
 .rcases qp hx with hx|⟨y,a4,rfl⟩
  .exact⟨by have:=(h.fE x hx).1;omega,(h.fE x hx).2⟩
  .exact aK y a4
 .show j2 u (s.threads.modify t.toNat g).length j i x
  rw[hl];exact(h.holds i x hx).mono (Lb _) hD
theorem gL(h:aS u D s)(ht:da s t=some f)(J:b0 u a9):aS u D (bO s t a9):=by
 obtain⟨_,_,fs,br⟩:=jN ht;refine h.threads _ (λgs bJ=>?_) (Lb _);rw[br] at bJ;injection bJ with bJ;subst bJ;have:=h.fE _ (Le br);simp only[List.dropLast_concat,Ld,Lm] at this ⊢;refine⟨this.1,λx hx=>?_⟩;rcases Lk.1 hx with hx|hx
 .exact this.2 x (by simp[hx])
 .have:x=a9:=by simpa using hx
  subst this;exact J
theorem Fu(h:aS u D s):aS u D (y5 s t):=by
 refine h.threads _ (λgs bJ=>?_) (Lb _);have:=h.fE _ (Le bJ);refine⟨by rw[List.length_dropLast];omega,λx hx=>this.2 x (List.mem_of_mem_take (by rw[List.dropLast_eq_take] at hx;exact hx))⟩
theorem D4(h:aS u D s)(J:b0 u a9):aS u (D+1) (qI s t a9):=by
 refine h.threads _ (λgs bJ=>?_) ab;have:=h.fE _ (Le bJ);refine⟨by simp;omega,λx hx=>?_⟩;rcases Lk.1 hx with hx|hx
 .exact this.2 x hx
 .have:x=a9:=by simpa using hx
  subst this;exact J
theorem qe(hF:b0 u f){p:di}(hp:u.procs[f.proc.toNat]?=some p)(h0:0<=k)(ae:k<p.code.length):b0 u {f with pc:=k}:=by
 obtain⟨q,br,_,aD,aU⟩:=hF.ex;rw[hp] at br;injection br with br;subst br;exact⟨hF.proc,h0,⟨_,hp,ae,aD,aU⟩,hF.fits,hF.aw⟩
theorem we(hF:b0 u f)(hl:is.length=f.ints.length)(J:∀v∈is,Fits v):b0 u {f with ints:=is}:=by
 obtain⟨q,br,ae,aD,aU⟩:=hF.ex;exact⟨hF.proc,hF.pc,⟨q,br,ae,by show (is.length:Int)=_;rw[hl];exact aD,aU⟩,J,hF.aw⟩
theorem uo(hS:aS u D s)(hF:b0 u f){p:di}(hp:u.procs[f.proc.toNat]?=some p):∀(es:List VE),(∀e∈es,fY (bj u) p.locals e)->
  ((db s.globals f.ints es).2=0\/(db s.globals f.ints es).2=1)/\((db s.globals f.ints es).2=0->(db s.globals f.ints es).1.length=es.length)/\∀v∈(db s.globals f.ints es).1,Fits v
 | [],_=>⟨.inl rfl,λ_=>rfl,λv h=>by simp[db] at h⟩
 | e::es,h=>by
  obtain⟨ae,aD,aU⟩:=uo hS hF hp es λx hx=>h x (by simp[hx]);have he:=xU hS hF hp (h e (by simp));have a:=p1 s.globals f.ints e;unfold db;split
  .rename_i a6;exact⟨a,λh=>absurd h a6,λv bD=>by simp at bD⟩
  .split
   .rename_i a6;exact⟨ae,λh=>absurd h a6,λv bD=>by simp at bD⟩
   .rename_i heq;refine⟨.inl rfl,λ_=>by simp[aD ab],λv bD=>?_⟩;rcases Lr.1 bD with rfl|bD
    .exact he.2.2
    .exact aU v bD
theorem r2(hU:cP u)(hF:b0 u f){nl nk:Int}(ai:nk<=f.aw.length):∀(ps:List bJ),(∀p∈ps,cI (bj u) nl nk p)->
  ((cf u s f ps).2=0\/(cf u s f ps).2=1\/(cf u s f ps).2=2)/\((cf u s f ps).2=0->(cf u s f ps).1.length=ps.length)/\∀v∈(cf u s f ps).1,0<=v/\v<elems u.ae
 | [],_=>⟨.inl rfl,λ_=>rfl,λv h=>by simp[cf] at h⟩
 | p::ps,h=>by
  obtain⟨ae,aD,aU⟩:=r2 hU hF ai ps λx hx=>h x (by simp[hx]);have he:=iu (s:=s) hU hF ai (h p (by simp));unfold cf;split
  .rename_i a6;exact⟨he.1,λh=>absurd h a6,λv bD=>by simp at bD⟩
  .rename_i a;split
   .rename_i a6;exact⟨ae,λh=>absurd h a6,λv bD=>by simp at bD⟩
   .rename_i heq;refine⟨.inl rfl,λ_=>by simp[aD ab],λv bD=>?_⟩;rcases Lr.1 bD with rfl|bD
    .exact he.2 ab
    .exact aU v bD
theorem rV(hU:cP u){ls:List Int}{sg:Int×Int}(h0:0<=k)(hs:(bj u).sig[k.toNat]?=some sg)(ak:(is.length:Int)=sg.1)(hl:(ls.length:Int)=sg.2)
  (J:∀v∈is,Fits v) (ai:∀v∈ls,0<=v/\v<elems u.ae):b0 u (ef u k is ls):=by
 have a:(u.procs.map λp=>(p.ints,p.aw))[k.toNat]?=some sg:=hs;rw[List.getElem?_map] at a
 cases hp:u.procs[k.toNat]? with
 | none=>rw[hp] at a;cases a
 | some p=>
  rw[hp] at a;injection a with a;subst a;simp only[] at ak hl;have aY:=hU.procs p (Le hp);obtain⟨c,hc,_⟩:=aY.code;have aM:gg u k=p.locals.toNat:=by unfold gg;rw[hp];rfl
  have ae:=aY.ints;refine⟨h0,Int.le_refl _,⟨p,hp,?_,?_,hl⟩,λv bD=>?_,ai⟩
  .show (0:Int)<(p.code.length:Int)
   rw[hc];simp
   try omega
  .show ((is++List.replicate (gg u k - is.length) 0).length:Int)=p.locals
   rw[aM];simp;omega
  .rcases Lk.1 bD with bD|bD
   .exact J v bD
   .rw[(List.mem_replicate.1 bD).2];exact ih
theorem Fk(hF:b0 u f){p:di}(hp:u.procs[f.proc.toNat]?=some p)(h:f.pc+1<p.code.length):b0 u (next f):=
 qe hF hp (aC hF.pc) h
theorem uV{l:List Int}{v:Int}(h:∀x∈l,Fits x)(bD:Fits v):∀x∈l.set i v,Fits x:=by
 intro x hx;rcases List.mem_or_eq_of_mem_set hx with hx|rfl
 .exact h x hx
 .exact bD
theorem xX{k:Nat}(ai:k<T.length):T[k]?=some (js T k):=by
 unfold js;rw[Lw,List.getElem?_eq_getElem ai];rfl
theorem wv(hS:aS u D s)(h0:0<=e)(ht:0<=t/\t<s.threads.length)(H:free u.ae s.table e t=true):
  ∀i h,(s.table.set e.toNat ⟨t+1,(js s.table e).depth+1⟩)[i]?=some h->j2 u s.threads.length (D+1) i h:=by
 intro i h ak;rw[List.getElem?_set] at ak;split at ak
 .rename_i heq;subst heq;split at ak
  .rename_i aw;injection ak with ak;subst ak;have aK:=xX (T:=s.table) aw;rw[show ((e.toNat:Nat):Int)=e by omega] at aK;have bl:=hS.holds _ _ aK;refine⟨⟨by show 0<=t+1;omega,by show t+1<=_;omega⟩,⟨by have:=bl.depth.1;show 0<=_+1;omega,by have:=bl.depth.2;show _+1<=((D+1:Nat):Int);omega⟩,?_,λh=>?_⟩
   .have:=bl.depth.1;show t+1=0↔(js s.table e).depth+1=0
    omega
   .have q:1<(js s.table e).depth+1:=h;rw[show ((e.toNat:Nat):Int)=e by omega];unfold free at H;simp only[Ln,Bool.or_eq_true,beq_iff_eq,LI] at H;rcases H.2 with aD|aD
    .have:=bl.Hx.1 aD;omega
    .exact aD.2
  .cases ak
 .exact(hS.holds i h ak).mono (Lb _) ab
theorem tz(hS:aS u D s)(aH:heldBy u.ae s.table e t=true):
  ∀i h,(s.table.set e.toNat (down (js s.table e)))[i]?=some h->j2 u s.threads.length D i h:=by
 intro i h ak;unfold heldBy at aH;simp only[Ln,beq_iff_eq,LI] at aH;rw[List.getElem?_set] at ak;split at ak
 .rename_i heq;subst heq;split at ak
  .rename_i aw;injection ak with ak;subst ak;have h0:=(iV.1 aH.1.1).1;have aK:=xX (T:=s.table) aw;rw[show ((e.toNat:Nat):Int)=e by omega] at aK;have bl:=hS.holds _ _ aK;have hd:(js s.table e).depth≠0:=λh=>by have:=bl.Hx.2 h;omega
   have:=bl.depth;have ax:=bl.owner;unfold down;refine⟨?_,⟨by show 0<=_ - 1;omega,by show _ - 1<=_;omega⟩,?_,λh=>bl.re (by have q:1<(js s.table e).depth - 1:=h;omega)⟩
   .simp only[];split<;>omega
   .simp only[];split<;>omega
  .cases ak
 .exact hS.holds i h ak
theorem oG(a b:Int)(m:Bool)(aW:0<=a/\a<=4)(O:0<=b/\b<=4):0<=bY a b m/\bY a b m<=4:=by
 unfold bY
 repeat' split
 all_goals omega
theorem pO(a b:Int)(m:Bool)(h:bY a b m=0):a=0/\b=0/\m=false:=by
 unfold bY at h;by_cases aW:a=0
 .by_cases O:b=0
  .cases m
   .exact⟨aW,O,rfl⟩
   .simp[aW,O] at h
  .simp[aW,O] at h
 .simp[aW] at h
theorem Ej(hU:cP u)(hS:aS u D s):aS u (D+1) (b9 u s t).1:=by
 unfold b9
 cases ht:da s t with
 | none=>exact hS.mono ab
 | some f=>
  obtain⟨hF,cY,aB⟩:=hS.top ht;obtain⟨p,x,hp,aY,hx,len,hlen,ak,bR⟩:=kO hU hF;have b:cV u s t=some x:=by unfold cV;rw[ht];simp[hp,hx]
  rw[b];simp only[];obtain⟨q,br,_,aM,bg⟩:=hF.ex;have L:p=q:=by rw[hp] at br;injection br
  subst L;have aN:aS u (D+1) s:=hS.mono ab;have hN:x.op≠8->b0 u (next f):=λh=>Fk hF hp (bR h);unfold cu;rcases ak with⟨ae,⟨e,he,bl⟩,aD,aU,a1⟩|⟨ae,aK,sg,aD,aU,a1,cd,o,C⟩|⟨ae,aK,aD⟩|⟨ae,aK,⟨e,he,bl⟩,aD,aU⟩|⟨ae,aK,aD,aU⟩|⟨ae,aK⟩
  ·
   have au:=xU hS hF hp bl;have a:=p1 s.globals f.ints e;rw[if_pos (.inl ae),he];simp only[Option.getD_some];split
   .exact aN.p2 ab
   .rw[if_neg ab]
    cases b8:x.dw with
    | true=>
     simp only[if_true];have:=gL aN ht (hN ab)
     exact⟨this.zi,this.fE,by show (s.globals.set _ _).length=_;rw[List.length_set];exact hS.dw,uV hS.mV au.2.2,this.table,this.holds,this.fault⟩
    | false=>
     simp only[LJ,if_false];exact gL aN ht (we (hN ab) (List.length_set ..) (uV hF.fits au.2.2))
  ·
   have hI:=uo hS hF hp x.ints o;have bo:=r2 (s:=s) hU hF ab x.places C;rw[if_neg ab,if_pos ae];simp only[];by_cases a6:bY (db s.globals f.ints x.ints).2 (cf u s f x.places).2 (decide (x.op=3/\32<=s.threads.length))≠0
   .rw[if_pos a6];exact aN.p2 (oG _ _ _ ab ab)
   .rw[if_neg a6];obtain⟨aW,O,hm⟩:=pO _ _ _ (Classical.not_not.1 a6);have H:=rV hU (k:=x.target) aD aU (by rw[hI.2.1 aW];exact a1) (by rw[bo.2.1 O];exact cd) hI.2.2 bo.2.2;have hT:=gL aN ht (hN ab);by_cases l:x.op=3
    .rw[if_pos l];have I:s.threads.length<32:=by
      simp only[decide_eq_false_iff_not,not_and] at hm;have:=hm l;omega
     have hl:(bO s t (next f)).threads.length=s.threads.length:=List.length_modify ..;refine⟨?_,λy a4=>?_,hT.dw,hT.mV,hT.table,λi y a4=>?_,hT.fault⟩
     .simp only[Ld,Lm,hl];omega
     .rcases Lk.1 a4 with a4|a4
      .exact hT.fE y a4
      .have:y=[ef u x.target (db s.globals f.ints x.ints).1 (cf u s f x.places).1]:=by simpa using a4
       subst this;refine⟨by simp,λz ba=>?_⟩;have:z=ef u x.target (db s.globals f.ints x.ints).1 (cf u s f x.places).1:=by simpa using ba
       subst this;exact H
     .refine(hT.holds i y a4).mono ?_ (Lb _);simp only[Ld];omega
    .rw[if_neg l];exact D4 (gL hS ht (hN ab)) H
  ·
   have aE:=iu (s:=s) hU hF ab aD;rw[if_neg ab,if_neg ab,if_pos ae];simp only[];split
   .refine aN.p2 ?_;rcases aE.1 with h|h|h<;>omega
   .rename_i heq;have aQ:=aE.2 ab;have hT:=gL aN ht (hN ab);have hl:(bO s t (next f)).threads.length=s.threads.length:=List.length_modify ..;split
    .split
     .rename_i H;refine⟨hT.zi,hT.fE,hT.dw,hT.mV,by show (hL _ _ _ _).length=_;rw[j4];exact hS.table,λi y a4=>?_,hT.fault⟩;show j2 u (bO s t (next f)).threads.length (D+1) i y
      rw[hl];refine wv hS aQ.1 ⟨cY,aB⟩ H i y ?_;have d:(hL u.ae s.table (bp u s f x.place).1 t)[i]?=some y:=a4;unfold hL at d;rw[if_pos H] at d;exact d
     .exact aN
    .split
     .rename_i aH;refine⟨hT.zi,hT.fE,hT.dw,hT.mV,by show (dO _ _ _ _).length=_;rw[iM];exact hS.table,λi y a4=>?_,hT.fault⟩;show j2 u (bO s t (next f)).threads.length (D+1) i y
      rw[hl];refine(tz hS aH i y ?_).mono (Lb _) ab;have d:(dO u.ae s.table (bp u s f x.place).1 t)[i]?=some y:=a4;unfold dO at d;rw[if_pos aH] at d;exact d
     .exact aN.p2 ab
  ·
   have a:=p1 s.globals f.ints e;rw[if_pos (.inr ae),he];simp only[Option.getD_some];split
   .exact aN.p2 ab
   .try rw[if_pos ae]
    refine gL aN ht ?_;split
    .exact qe hF hp aD (by rw[hlen];omega)
    .exact hN ab
  .rw[if_neg ab,if_neg ab,if_neg ab,if_pos ae];exact gL aN ht (qe hF hp aD (by rw[hlen];omega))
  .rw[if_neg ab,if_neg ab,if_neg ab,if_neg ab];exact Fu aN
theorem ta(hU:cP u):aS u 0 (eK u):=by
 obtain⟨p,h0,hp,ak,hl⟩:=hU.main;have J:b0 u (ef u u.main [] []):=by
  refine rV hU h0 (sg:=(0,0)) ?_ rfl rfl (λv bD=>by simp at bD) (λv bD=>by simp at bD);show (u.procs.map λp=>(p.ints,p.aw))[u.main.toNat]?=_
  rw[List.getElem?_map,hp];simp[ak,hl]
 refine⟨by show 1<=[[ef u u.main [] []]].length/\_;simp[eK],λt ht=>?_,rfl,λv bD=>?_,by simp[eK],λi h ak=>?_,by simp[eK]⟩
 .have:t=[ef u u.main [] []]:=by simpa[eK] using ht
  subst this;refine⟨by simp,λx hx=>?_⟩;have:x=ef u u.main [] []:=by simpa using hx
  subst this;exact J
 .have:=hU.globals v bD;unfold Fits;omega
 .have K:(List.replicate (own u.ae).length (⟨0,0⟩:dn))[i]?=some h:=ak;rw[List.getElem?_replicate] at K;split at K
  .injection K with K;subst K;exact⟨⟨by simp,by simp⟩,⟨by simp,by simp⟩,by simp,λh=>by simp at h⟩
  .cases K
end
def cR(u:av)(s:ag)(t:Int):Option (Int×Int):=
 match da s t,cV u s t with
 | some f,some x=>if x.op=4 then
   if (bp u s f x.place).2≠0 then none else if free u.ae s.table (bp u s f x.place).1 t=true then none
   else some ((bp u s f x.place).1,(js s.table (bp u s f x.place).1).owner - 1) else none
 | _,_=>none
def vo(u:av)(s:ag)(t:Int):Bool:=(cV u s t).isSome && (cR u s t).isNone
def gd:Option (Int×Int)->Int
 | none=>-1
 | some r=>r.2
def aI(u:av)(s:ag):List Int:=(List.range s.threads.length).map λt:Nat=>gd (cR u s (t:Int))
section
variable {u:av} {D:Nat} {s:ag} {t:Int}
theorem kN(h:da s t=none):cV u s t=none:=by unfold cV;rw[h];rfl
theorem Ep(h:(s.threads.length:Int)<=t):da s t=none:=by
 unfold da;split
 .rfl
 .rw[List.getElem?_eq_none ab];rfl
theorem Eo(h:t<0):da s t=none:=by unfold da;rw[if_pos (.inr h)]
theorem qV(h:s.fault≠0):da s t=none:=by unfold da;rw[if_pos (.inl h)]
theorem mA(h:da s t=none):cR u s t=none:=by unfold cR;rw[h]
theorem gQ(h:cR u s t=some r):∃f x,da s t=some f/\cV u s t=some x/\x.op=4/\(bp u s f x.place).2=0/\free u.ae s.table (bp u s f x.place).1 t=false/\
  r=((bp u s f x.place).1,(js s.table (bp u s f x.place).1).owner - 1):=by
 unfold cR at h;split at h
 .rename_i f x J hx;split at h
  .rename_i aG;split at h
   .cases h
   .rename_i E;split at h
    .cases h
    .rename_i H;injection h with h;exact⟨f,x,J,hx,aG,ab,by simpa using H,h.symm⟩
  .cases h
 .cases h
theorem E5(hU:cP u)(hS:aS u D s):vo u s t=(b9 u s t).2:=by
 unfold vo cR b9
 cases J:da s t with
 | none=>rw[kN J];rfl
 | some f=>
  cases hx:cV u s t with
  | none=>rfl
  | some x=>
   simp only[Option.isSome_some,Bool.true_and];unfold cu;by_cases ae:x.op=1\/x.op=6
   .rw[if_pos ae,if_neg ab];simp only[]
    repeat' split
    all_goals rfl
   .rw[if_neg ae];by_cases aD:x.op=2\/x.op=3
    .rw[if_pos aD,if_neg ab];simp only[]
     repeat' split
     all_goals rfl
    .rw[if_neg aD];by_cases a1:x.op=4
     .rw[if_pos a1,if_pos (Or.inl a1)];simp only[a1,if_true]
      repeat' split
      all_goals first|rfl|simp_all
     .rw[if_neg a1];simp only[]
      repeat' split
      all_goals first|rfl|omega
theorem dC:(aI u s).length=s.threads.length:=by simp[aI]
theorem iZ:nI (aI u s) t=gd (cR u s t):=by
 unfold nI;split
 .rename_i h;rw[mA (Eo h)];rfl
 .rename_i h;rw[List.getD_eq_getElem?_getD];by_cases hl:t.toNat<s.threads.length
  .unfold aI;rw[List.getElem?_map,List.getElem?_range hl];simp only[Option.map_some,Option.getD_some];rw[show ((t.toNat:Nat):Int)=t by omega]
  .rw[List.getElem?_eq_none (by rw[dC];omega),mA (Ep ab)];rfl
theorem nC(hS:aS u D s)(e:Int):0<=(js s.table e).owner/\(js s.table e).owner<=s.threads.length:=by
 unfold js
 cases h:s.table[e.toNat]? with
 | none=>simp
 | some x=>simpa using (hS.holds _ x h).owner
theorem j3(hS:aS u D s):cD (aI u s):=by
 intro x hx;obtain⟨k,ai,rfl⟩:=Lz.1 hx;rw[dC];have hn:=hS.zi
 cases h:cR u s (k:Int) with
 | none=>simp only[gd];omega
 | some r=>
  obtain⟨f,x,_,_,_,_,_,rfl⟩:=gQ h;have:=nC hS (bp u s f x.place).1;simp only[gd];omega
theorem Hr(hS:aS u D s)(h:t∈gx (aI u s)):∃e o,cR u s t=some (e,o)/\o∈gx (aI u s)/\0<=o:=by
 have hl:=j3 hS;have hc:=tU hl h;have h0:=((ez hl).1 hc).1;rw[iZ] at hc h0
 cases hw:cR u s t with
 | none=>rw[hw] at h0;simp[gd] at h0
 | some r=>rw[hw] at hc h0;exact⟨r.1,r.2,rfl,hc,h0⟩
def j6:VE->Prop
 | .iz _=>False
 | .un _ x=>j6 x
 | .bin _ x y=>j6 x/\j6 y
 | _=>True
theorem lh(g aw l:List Int):∀x:VE,j6 x->ev g l x=ev aw l x
 | .num _,_=>rfl
 | .gT _,_=>rfl
 | .loc _,_=>rfl
 | .iz _,h=>h.elim
 | .un op x,h=>by
  have ao:=lh g aw l x h
  simp only[ev,ao]
 | .bin op x y,h=>by
  have i:=lh g aw l x h.1;have c:=lh g aw l y h.2;simp only[ev,i,c]
structure xr(u:av)(s:ag)(t e o:Int):Prop where
 waits:cR u s t=some (e,o)
 o0:0<=o
 j6:∀x v,cV u s t=some x->x.place.at_=some v->j6 v
theorem v8{f:al}{p:bJ}(h:∀v,p.at_=some v->j6 v):bp u a7 f p=bp u s f p:=by
 have ak:cO u a7 f p=cO u s f p:=by
  unfold cO
  cases hp:p.at_ with
  | none=>rfl
  | some v=>simp only[lh a7.globals s.globals f.ints v (h v hp)]
 unfold bp;rw[ak]
theorem xr.ai(h:xr u s t e o)(ht:da a7 t=da s t)(aH:js a7.table e=js s.table e):xr u a7 t e o:=by
 obtain⟨f,x,J,hx,aG,E,H,aQ⟩:=gQ h.waits;have g:cV u a7 t=some x:=by
  unfold cV at hx ⊢;rw[ht];exact hx
 have he:=v8 (u:=u) (s:=s) (a7:=a7) (f:=f) (p:=x.place) λv bD=>h.j6 x v hx bD;injection aQ with ar bU;refine⟨?_,h.o0,λy v a4 bD=>?_⟩
 .unfold cR;rw[ht,J,g];simp only[];rw[if_pos aG,he,if_neg ab];have a:free u.ae a7.table (bp u s f x.place).1 t=false:=by
   rw[<-ar];rw[<-ar] at H;unfold free at H ⊢;rw[aH];exact H
  rw[if_neg (by simp[a]),<-ar,aH,<-ar] at *;simp[bU]
 .rw[g] at a4;injection a4 with a4;subst a4;exact h.j6 x v hx bD
theorem hW{l:List (List al)}{j:Nat}{g:List al->List al}(h:i≠j):(l.modify i g)[j]?=l[j]?:=by
 rw[List.getElem?_modify]
 cases l[j]? with
 | none=>rfl
 | some y=>simp[h]
theorem ve{s:ag}(J:a7.fault=s.fault)(h:a7.threads[t.toNat]?=s.threads[t.toNat]?):da a7 t=da s t:=by
 unfold da;rw[J,h]
theorem w4(hU:cP u)(ht:0<=t/\t<s.threads.length)(hp:p≠t)(ct:s.fault=0)(J:(b9 u s p).1.fault=0):da (b9 u s p).1 t=da s t:=by
 refine ve (J.trans ct.symm) ?_;unfold b9 at J ⊢
 cases br:da s p with
 | none=>rfl
 | some f=>
  have i:0<=p:=(jN br).2.1;have a6:p.toNat≠t.toNat:=ab
  cases hx:cV u s p with
  | none=>rfl
  | some x=>
   simp only[];unfold cu;simp only[]
   repeat' split
   all_goals simp only[bO,qI,y5]
   all_goals first
    | rfl
    | exact hW a6
    | (rw[hW a6];exact hW a6)
    | (rw[List.getElem?_append_left (by rw[List.length_modify];omega)];exact hW a6)
theorem DH(h0:0<=bw X e\/True)(he:0<=e)(bl:(js T e).owner≠0)(hp:(js T e).owner≠p+1):js (hL X T l p) e=js T e:=by
 unfold hL;split
 .rename_i H;by_cases g:l=e
  .subst g;unfold free at H;simp[bl,hp] at H
  .have a:0<=l:=by
    unfold free at H;simp only[Ln,LI] at H;exact(iV.1 H.1.1).1
   unfold js;rw[List.getElem?_set_ne ab]
 .rfl
theorem xg(he:0<=e)(hp:(js T e).owner≠p+1):js (dO X T l p) e=js T e:=by
 unfold dO;split
 .rename_i aH;by_cases g:l=e
  .subst g;unfold heldBy at aH;simp[hp] at aH
  .have a:0<=l:=by
    unfold heldBy at aH;simp only[Ln,LI] at aH;exact(iV.1 aH.1.1).1
   unfold js;rw[List.getElem?_set_ne ab]
 .rfl
theorem w5(he:0<=e)(bl:(js s.table e).owner≠0)(hp:(js s.table e).owner≠p+1):js (b9 u s p).1.table e=js s.table e:=by
 unfold b9
 cases br:da s p with
 | none=>rfl
 | some f=>
  cases hx:cV u s p with
  | none=>rfl
  | some x=>
   simp only[];unfold cu;simp only[]
   repeat' split
   all_goals first
    | rfl
    | exact DH (.inr trivial) he bl hp
    | exact xg he hp
theorem my(h:(b9 u s t).2=false):(b9 u s t).1=s:=by
 unfold b9 at h ⊢
 cases br:da s t with
 | none=>rfl
 | some f=>
  cases hx:cV u s t with
  | none=>rfl
  | some x=>
   rw[br,hx] at h;simp only[] at h ⊢;unfold cu at h ⊢;simp only[] at h ⊢
   repeat' split
   all_goals first
    | rfl
    | (exfalso;simp_all;done)
    | (exfalso;revert h;repeat' split;all_goals simp_all)
theorem k1(hU:cP u)(hS:aS u D s)(h:cR u s t=some (e,o)):0<=e/\(js s.table e).owner=o+1/\0<=t/\t<s.threads.length:=by
 obtain⟨f,x,J,hx,aG,E,H,aQ⟩:=gQ h;injection aQ with ar bU;have ht:=hS.top J;refine⟨?_,by rw[ar];omega,ht.2.1,ht.2.2⟩;obtain⟨p,y,hp,aY,a4,len,hlen,ak,_⟩:=kO hU ht.1;have c:x=y:=by
  unfold cV at hx;rw[J] at hx;simp only[Option.bind_some,hp,a4,LG] at hx;exact hx.symm
 subst c;obtain⟨q,br,_,_,ai⟩:=ht.1.ex;rw[hp] at br;injection br with br;subst br;have bf:cI (bj u) p.locals p.aw x.place:=by
  exact GG
 have:=(iu (s:=s) hU ht.1 ab bf).2 ab;rw[ar];exact this.1
theorem tA(h:cR u s t=some r):vo u s t=false:=by unfold vo;rw[h];simp
def px(u:av)(s:ag)(d:List Int):Prop:=∀t∈d,∃e o,xr u s t e o/\o∈d
theorem px.step{d:List Int}(hU:cP u)(hS:aS u D s)(h:px u s d)(p:Int)(J:(b9 u s p).1.fault=0):px u (b9 u s p).1 d:=by
 by_cases hp:p∈d
 .obtain⟨e,o,hs,_⟩:=h p hp;rw[my (by rw[<-E5 hU hS];exact tA hs.waits)];exact h
 .intro t ht;obtain⟨e,o,hs,bl⟩:=h t ht;obtain⟨f,x,ay,_⟩:=gQ hs.waits;obtain⟨ae,aD,aU,a1⟩:=k1 hU hS hs.waits;have a:p≠t:=λe=>hp (by rw[e];exact ht);have i:p≠o:=λe=>hp (by rw[e];exact bl);have h0:=hs.o0;exact⟨e,o,hs.ai (w4 hU ⟨aU,a1⟩ a (jN ay).1 J) (w5 ae ab ab),bl⟩
theorem GP(h:s.fault≠0)(p:Int):(b9 u s p).1=s:=by
 unfold b9;rw[qV h]
theorem Fb(h:s.fault≠0):vo u s t=false:=by unfold vo;rw[kN (qV h)];rfl
def jn(u:av)(s:ag):Bool:=(List.range s.threads.length).all λt=>!vo u s (t:Int)
theorem uG(hU:cP u)(hS:aS u D s)(br:jn u s=true)(J:s.fault=0){t:Nat}(ht:s.threads[t]?=some fs)(a5:fs≠[]):∃r,cR u s (t:Int)=some r:=by
 have aw:=(List.getElem?_eq_some_iff.1 ht).1;unfold jn at br;have ae:=List.all_eq_true.1 br t (List.mem_range.2 aw);have g:∃f,da s (t:Int)=some f:=by
  unfold da;rw[if_neg ab,Lw,ht];obtain⟨f,hl⟩:=Option.isSome_iff_exists.1 (List.getLast?_isSome.2 a5);exact⟨f,hl⟩
 obtain⟨f,g⟩:=g;have hF:=(hS.top g).1;obtain⟨p,x,hp,_,hx,_⟩:=kO hU hF;have b:cV u s (t:Int)=some x:=by
  unfold cV;rw[g];simp only[Option.bind_some,hp,hx]
 unfold vo at ae;rw[b] at ae
 cases hw:cR u s (t:Int) with
 | none=>rw[hw] at ae;simp at ae
 | some r=>exact⟨r,rfl⟩
theorem H5(hU:cP u)(hS:aS u D s)(br:jn u s=true)(J:s.fault=0){t:Nat}(ht:s.threads[t]?=some fs)(a5:fs≠[]):
  (∃(k o:Nat) (e:Int),cR u s (k:Int)=some (e,(o:Int))/\s.threads[o]?=some [])\/0<(gx (aI u s)).length:=by
 by_cases r:∃(k o:Nat) (e:Int),cR u s (k:Int)=some (e,(o:Int))/\s.threads[o]?=some []
 .exact .inl r
 .right;have hl:=j3 hS;have key:∀(i:Int),(∃(k:Nat) (gs:List al),i=k/\s.threads[k]?=some gs/\gs≠[])->0<=i/\∃(k:Nat) (gs:List al),nI (aI u s) i=k/\s.threads[k]?=some gs/\gs≠[]:=by
   rintro i ⟨k,gs,rfl,ai,bJ⟩;refine⟨ab,?_⟩;obtain⟨⟨e,o⟩,hw⟩:=uG hU hS br J ai bJ;obtain⟨f,x,_,_,_,_,H,aQ⟩:=gQ hw;injection aQ with cN cS;obtain⟨_,l,bw,_⟩:=k1 hU hS hw;have aw:o<s.threads.length:=by have:=(nC hS e).2;omega
   have g:0<=o:=by
    have h0:=(nC hS e).1;rcases Int.lt_or_le o 0 with I|I
    .exfalso;have ba:(js s.table e).owner=0:=ab;have aE:=(k1 hU hS hw).1;obtain⟨f2,bu,ay,bd,j,d,a,cS⟩:=gQ hw;injection cS with bU _;have hT:=hS.top ay;obtain⟨p,y,hp,aY,a4,len,hlen,ak,_⟩:=kO hU hT.1;have c:bu=y:=by
      unfold cV at bd;rw[ay] at bd;simp only[Option.bind_some,hp,a4,LG] at bd;exact bd.symm
     subst c;obtain⟨q,T,_,_,b⟩:=hT.1.ex;rw[hp] at T;injection T with T;subst T;have bf:cI (bj u) p.locals p.aw bu.place:=by
      exact GG
     have ax:=(iu (s:=s) hU hT.1 ab bf).2 ab;rw[<-bU] at ax a;have:=qt ax.1 ax.2;unfold free at a;simp[ba,this] at a
     try omega
    .exact I
   have bl:s.threads[o.toNat]?=some (s.threads[o.toNat]'ab):=List.getElem?_eq_getElem _;refine⟨o.toNat,_,by rw[iZ,hw];show o=_;omega,bl,λhe=>r ⟨k,o.toNat,e,by rw[hw,show ((o.toNat:Nat):Int)=o by omega],by rw[bl,he]⟩⟩
  have:=v7 hl (S:=λi=>∃(k:Nat) (gs:List al),i=k/\s.threads[k]?=some gs/\gs≠[]) key (t:=(t:Int)) ⟨t,fs,rfl,ht,a5⟩ (by rw[dC];have:=(List.getElem?_eq_some_iff.1 ht).1;omega);exact List.length_pos_of_mem this
end
def iO(u:av):ag->List Int->ag
 | s,[]=>s
 | s,t::l=>iO u (b9 u s t).1 l
def jO(u:av):ag->List Int->List Int
 | _,[]=>[]
 | s,t::l=>(if (b9 u s t).2 then [t] else [])++jO u (b9 u s t).1 l
section
variable {u:av} {D:Nat}
theorem uQ:∀(l m:List Int) (s:ag),iO u s (l++m)=iO u (iO u s l) m
 | [],_,_=>rfl
 | t::l,m,s=>uQ l m _
theorem vg:∀(l m:List Int) (s:ag),jO u s (l++m)=jO u s l++jO u (iO u s l) m
 | [],_,_=>rfl
 | t::l,m,s=>by
  rw[Lq,jO,jO,iO,vg l m,Lp]
theorem HQ(l:List Int):∀s:ag,(jO u s l).length<=l.length:=by
 induction l with
 | nil=>intro s;exact Lb _
 | cons t l ao=>
  intro s;have:=ao (b9 u s t).1;rw[jO,Ld,Lo];split<;>simp<;>omega
theorem tr(hU:cP u):∀(l:List Int) (D:Nat) (s:ag),aS u D s->aS u (D+l.length) (iO u s l)
 | [],_,_,h=>h
 | t::l,D,s,h=>by
  have:=tr hU l (D+1) _ (Ej (t:=t) hU h);rw[Lo,show D+(l.length+1)=D+1+l.length by omega];exact this
end
end Go.Proofs.YtflecliffjbleaaGreat
