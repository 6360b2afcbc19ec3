/- Part 8 of the proof. No condition of its own. -/
import Derived.Test.YtnhhdaggkiomoaaGreatQ07
namespace Go.Proofs.YtnhhdaggkiomoaaGreat
open Go.RowKit Go.Proofs.Tryz
set_option maxRecDepth 1000000
set_option maxHeartbeats 25600000
set_option linter.unusedVariables false
variable{e k o p:Int}{r:Int×Int}{is:List Int}{X:List bI}{T:List cy}{i:Nat}{Q:aj}
def ef(s:aj)(t:Int):Option al:=if s.fault≠0∨t<0 then none else (s.threads[t.toNat]?).bind List.getLast?
def dW(u:ay)(s:aj)(t:Int):Option az:=(ef s t).bind fun f=>(u.procs[f.proc.toNat]?).bind fun p=>p.code[f.pc.toNat]?
def cS(u:ay)(s:aj)(f:al)(p:bR):Int×Int:=
 match p.at_ with
 | none=>(0,0)
 | some e=>idx (((u.af[p.index.toNat]?).map bI.size).getD 0) (ev s.globals f.ints e)
def bG(u:ay)(s:aj)(f:al)(p:bR):Int×Int:=
 if p.param then (f.av.getD p.index.toNat 0,0)
 else if (cS u s f p).2≠0 then (0,(cS u s f p).2) else (eR u.af p.index+(cS u s f p).1,0)
def xz(u:ay)(s:aj)(t:Int)(p:bR):Int×Int:=match ef s t with
 | none=>(0,0)
 | some f=>bG u s f p
def cO(g l:List Int):List VE→List Int×Int
 | []=>([],0)
 | e::es=>if (ev g l e).2≠0 then ([],(ev g l e).2) else if (cO g l es).2≠0 then ([],(cO g l es).2) else ((ev g l e).1::(cO g l es).1,0)
def b0(u:ay)(s:aj)(f:al):List bR→List Int×Int
 | []=>([],0)
 | p::ps=>if (bG u s f p).2≠0 then ([],(bG u s f p).2) else if (b0 u s f ps).2≠0 then ([],(b0 u s f ps).2) else ((bG u s f p).1::(b0 u s f ps).1,0)
def eV(u:ay)(k:Int):Nat:=(((u.procs[k.toNat]?).map cJ.locals).getD 0).toNat
def da(u:ay)(k:Int)(is ls:List Int):al:=⟨k,0,is++List.replicate (eV u k - is.length) 0,ls⟩
def dA(u:ay):aj:=⟨u.globals,List.replicate (own u.af).length ⟨0,0⟩,[[da u u.main [] []]],0⟩
def bs(s:aj)(t:Int)(f:al):aj:={s with threads:=s.threads.modify t.toNat fun fs=>fs.dropLast++[f]}
def qn(s:aj)(t:Int)(f:al):aj:={s with threads:=s.threads.modify t.toNat fun fs=>fs++[f]}
def ug(s:aj)(t:Int):aj:={s with threads:=s.threads.modify t.toNat List.dropLast}
def next(f:al):al:={f with pc:=f.pc+1}
def b9(a b:Int)(many:Bool):Int:=if a≠0 then a else if b≠0 then b else if many then 4 else 0
def bW(u:ay)(s:aj)(t:Int)(f:al)(x:az):aj×Bool:=
 if x.op=1∨x.op=6 then
  let r:=ev s.globals f.ints (x.expr.getD (.num 0))
  if r.2≠0 then ({s with fault:=r.2},true)
  else if x.op=6 then (bs s t (if r.1=0 then {f with pc:=x.target} else next f),true)
  else if x.dg then ({bs s t (next f) with globals:=s.globals.set x.target.toNat r.1},true)
  else (bs s t {next f with ints:=f.ints.set x.target.toNat r.1},true)
 else if x.op=2∨x.op=3 then
  let a:=cO s.globals f.ints x.ints
  let b:=b0 u s f x.places
  let e:=b9 a.2 b.2 (decide (x.op=3∧32≤s.threads.length))
  if e≠0 then ({s with fault:=e},true)
  else if x.op=3 then ({bs s t (next f) with threads:=(bs s t (next f)).threads++[[da u x.target a.1 b.1]]},true)
  else (qn (bs s t (next f)) t (da u x.target a.1 b.1),true)
 else if x.op=4∨x.op=5 then
  let r:=bG u s f x.place
  if r.2≠0 then ({s with fault:=r.2},true)
  else if x.op=4 then (if free u.af s.table r.1 t then ({bs s t (next f) with table:=fw u.af s.table r.1 t},true) else (s,false))
  else (if heldBy u.af s.table r.1 t then ({bs s t (next f) with table:=cV u.af s.table r.1 t},true) else ({s with fault:=3},true))
 else if x.op=7 then (bs s t {f with pc:=x.target},true)
 else (ug s t,true)
def bB(u:ay)(s:aj)(t:Int):aj×Bool:=match ef s t,dW u s t with
 | some f,some x=>bW u s t f x
 | _,_=>(s,false)
theorem oL:∀x:VE,x.lit→x.fit
 | .num n,h=>by
  have F:0≤n∧n≤9223372036854775807:=h;show Fits n
  unfold Fits;omega
 | .g0 _,_=>trivial
 | .loc _,_=>trivial
 | .iC _,_=>trivial
 | .un _ x,h=>oL x h
 | .bin _ x y,h=>⟨oL x h.1,oL y h.2⟩
structure cb(u:ay)(f:al):Prop where
 proc:0≤f.proc
 pc:0≤f.pc
 ex:∃p,u.procs[f.proc.toNat]?=some p∧f.pc<p.code.length∧(f.ints.length:Int)=p.locals∧(f.av.length:Int)=p.av
 fits:∀v∈f.ints,Fits v
 av:∀k∈f.av,0≤k∧k<elems u.af
structure jY(u:ay)(n D:Nat)(i:Nat)(h:cy):Prop where
 owner:0≤h.owner∧h.owner≤n
 depth:0≤h.depth∧h.depth≤D
 DM:h.owner=0↔h.depth=0
 re:1<h.depth→wA u.af (bt u.af i)=true
structure aX(u:ay)(D:Nat)(s:aj):Prop where
 x0:1≤s.threads.length∧s.threads.length≤32
 fm:∀t∈s.threads,t.length≤D+1∧∀f∈t,cb u f
 dg:s.globals.length=u.globals.length
 mB:∀v∈s.globals,Fits v
 table:s.table.length=(own u.af).length
 holds:∀i h,s.table[i]?=some h→jY u s.threads.length D i h
 fault:0≤s.fault∧s.fault≤4
theorem jY.mono{u:ay}{n aP D j:Nat}{h:cy}(ah:jY u n D i h)(hn:n≤aP)(hD:D≤j):jY u aP j i h:=
 ⟨⟨ah.owner.1,by have:=ah.owner.2;omega⟩,⟨ah.depth.1,by have:=ah.depth.2;omega⟩,ah.DM,ah.re⟩
section
variable {u:ay} {D:Nat} {s:aj} {t:Int} {f:al}
theorem jI(h:ef s t=some f):s.fault=0∧0≤t∧∃fs,s.threads[t.toNat]?=some (fs++[f]):=by
 unfold ef at h;split at h
 ·cases h
 ·rename_i hc;refine⟨ad,ad,?_⟩
  cases bK:s.threads[t.toNat]? with
  | none=>rw[bK] at h;cases h
  | some l=>
   rw[bK] at h;have F:l.getLast?=some f:=h;obtain⟨cK,rfl⟩:=List.getLast?_eq_some_iff.1 F;exact⟨cK,rfl⟩
theorem aX.top(hS:aX u D s)(h:ef s t=some f):cb u f∧0≤t∧t<s.threads.length:=by
 obtain⟨_,h0,fs,bK⟩:=jI h;have ak:=(List.getElem?_eq_some_iff.1 bK).1;exact⟨(hS.fm _ (KJ bK)).2 f (by simp),h0,ad⟩
theorem pT(hU:cZ u)(hF:cb u f):∃p x,u.procs[f.proc.toNat]?=some p∧ql (bx u) p∧p.code[f.pc.toNat]?=some x∧∃len:Nat,p.code.length=len+1∧h2 (bx u) p.locals p.av len x∧(x.op≠8→f.pc+1<p.code.length):=by
 obtain⟨p,hp,c4,_,_⟩:=hF.ex;have aZ:=hU.procs p (KJ hp);obtain⟨c,hc,_,ap⟩:=aZ.code;have h0:=hF.pc;have hlen:p.code.length=c.length+1:=by rw[hc];simp
 have hx:p.code[f.pc.toNat]?=some (p.code[f.pc.toNat]'ad):=List.getElem?_eq_getElem _;refine⟨p,_,hp,aZ,hx,c.length,hlen,?_⟩;by_cases ak:f.pc.toNat<c.length
 ·have he:p.code[f.pc.toNat]'ad=c[f.pc.toNat]:=by
   simp only[hc];exact List.getElem_append_left ak
  rw[he];exact⟨ap _ (List.getElem_mem _),fun _=>ad⟩
 ·have he:p.code[f.pc.toNat]'ad=nj:=by
   simp only[hc];rw[List.getElem_append_right ad];simp
  rw[he];exact⟨.inr (.inr (.inr (.inr (.inr ⟨rfl,rfl⟩)))),fun h=>absurd rfl h⟩
theorem xB(hS:aX u D s)(hF:cb u f){p:cJ}(hp:u.procs[f.proc.toNat]?=some p){e:VE}(he:gd (bx u) p.locals e):
  e.ok s.globals.length f.ints.length∧nL s.globals f.ints e∧Fits (ev s.globals f.ints e).1:=by
 obtain⟨q,bK,_,hl,_⟩:=hF.ex;rw[hp] at bK;injection bK with bK;subst bK;have ac:e.ok s.globals.length f.ints.length:=by
  rw[hS.dg];have:=he.1;rw[show p.locals.toNat=f.ints.length by omega] at this;exact this
 have i:=oL e he.2;exact⟨ac,⟨hS.mB,hF.fits,i⟩,sK hS.mB hF.fits e i⟩
end
theorem cZ.yW{u:ay}(h:cZ u):m2 u.af:=⟨by have:=h.wi;omega,h.gp⟩
theorem Dd(op a b:Int):(arith op a b).2=0∨(arith op a b).2=1:=by
 unfold arith
 repeat' split
 all_goals simp
theorem pK(g l:List Int):∀x:VE,(ev g l x).2=0∨(ev g l x).2=1
 | .num _=>.inl rfl
 | .g0 _=>.inl rfl
 | .loc _=>.inl rfl
 | .iC _=>.inl rfl
 | .un op x=>by
  have ao:=pK g l x;unfold ev
  repeat' split
  all_goals first|exact ao|exact .inl rfl
 | .bin op x y=>by
  have i:=pK g l x;have c:=pK g l y;unfold ev
  repeat' split
  all_goals first|exact i|exact c|exact .inl rfl|exact Dd _ _ _
theorem Fi(m:Int)(r:Int×Int)(h:r.2=0∨r.2=1):(idx m r).2=0∨(idx m r).2=1∨(idx m r).2=2:=by
 unfold idx
 repeat' split
 all_goals simp
 all_goals omega
theorem Hm(m:Int)(r:Int×Int)(h:(idx m r).2=0):0≤(idx m r).1∧(idx m r).1<m:=by
 unfold idx at h ⊢;split at h
 ·rename_i ac;exact absurd h ac
 ·split at h
  ·simp at h
  ·rename_i ac av;rw[if_neg ac,if_neg av];simp only[];omega
section
variable {u:ay} {D j:Nat} {s:aj} {t:Int} {f a6:al}
theorem jt(hU:cZ u)(hF:cb u f){p:bR}{nl nk:Int}(ap:nk≤f.av.length)(hp:cU (bx u) nl nk p):
  ((bG u s f p).2=0∨(bG u s f p).2=1∨(bG u s f p).2=2)∧((bG u s f p).2=0→0≤(bG u s f p).1∧(bG u s f p).1<elems u.af):=by
 unfold bG;rcases hp with⟨ac,av,aV,bz⟩|⟨ac,m,av,aV,bz,cm⟩
 ·rw[if_pos ac];refine⟨.inl rfl,fun _=>?_⟩;have ak:p.index.toNat<f.av.length:=ad;have:f.av.getD p.index.toNat 0=f.av[p.index.toNat]:=by rw[List.getD_eq_getElem?_getD,List.getElem?_eq_getElem ak];rfl
  simp only[this];exact hF.av _ (List.getElem_mem _)
 ·rw[if_neg (by simp[ac])];have hm:u.af[p.index.toNat]?=some m:=aV;have bW:=hU.gp m (KJ hm);obtain⟨i,an⟩:=KL av;rw[an,Lc] at hm;have ak:=(List.getElem?_eq_some_iff.1 hm).1;have O:eR u.af p.index=elems (u.af.take i):=by rw[an];exact m9 ak
  have h0:=(hU.yW).mm i;have K:elems (u.af.take i)+m.num≤elems u.af:=by
   have:=qX u.af (i+1);rw[List.take_add_one,hm] at this;simp only[Option.toList_some,iy] at this;exact this
  have y:=m.oO;have a:((cS u s f p).2=0∨(cS u s f p).2=1∨(cS u s f p).2=2)∧((cS u s f p).2=0→0≤(cS u s f p).1∧(cS u s f p).1<m.num):=by
   unfold cS;by_cases bt:0<m.size
   ·obtain⟨e,he,_⟩:=bz bt;have F:((u.af[p.index.toNat]?).map bI.size).getD 0=m.size:=by rw[an,Lc,hm];rfl
    rw[he];simp only[F];refine⟨Fi _ _ (pK _ _ _),fun h=>?_⟩;have:=Hm _ _ h;unfold bI.num;omega
   ·rw[cm bt];refine⟨.inl rfl,fun _=>⟨Int.le_refl _,?_⟩⟩;simp only[];omega
  split
  ·rename_i bf;exact⟨a.1,fun h=>absurd h bf⟩
  ·rename_i heq;refine⟨.inl rfl,fun _=>?_⟩;have:=a.2 ad;simp only[O];omega
theorem pZ{α:Type}{l:List α}{g:α→α}{x:α}(h:x∈l.modify i g):x∈l∨∃y,l[i]?=some y∧x=g y:=by
 obtain⟨k,ap⟩:=List.getElem?_of_mem h;rw[List.getElem?_modify] at ap;split at ap
 ·rename_i heq;subst heq
  cases bb:l[i]? with
  | none=>rw[bb] at ap;cases ap
  | some y=>
   rw[bb] at ap;exact .inr ⟨y,rfl,by simpa using ap.symm⟩
 ·exact .inl (KJ (by simpa using ap))
theorem aX.mono(h:aX u D s)(hD:D≤j):aX u j s:=
 ⟨h.x0,fun t ht=>⟨by have:=(h.fm t ht).1;omega,(h.fm t ht).2⟩,h.dg,h.mB,h.table,fun i x hx=>(h.holds i x hx).mono (KG _) hD,h.fault⟩
theorem aX.pL(h:aX u D s)(he:0≤e∧e≤4):aX u D {s with fault:=e}:=
 ⟨h.x0,h.fm,h.dg,h.mB,h.table,h.holds,he⟩
theorem aX.threads(h:aX u D s)(g:List al→List al)(a2:∀fs,s.threads[t.toNat]?=some fs→(g fs).length≤j+1∧∀f∈g fs,cb u f)(hD:D≤j) :
  aX u j {s with threads:=s.threads.modify t.toNat g}:=by
 have hl:(s.threads.modify t.toNat g).length=s.threads.length:=List.length_modify ..;refine⟨by show 1≤(s.threads.modify t.toNat g).length∧_≤32;rw[hl];exact h.x0,fun x hx=>?_,h.dg,h.mB,h.table,fun i x hx=>?_,h.fault⟩
 ·rcases pZ hx with hx|⟨y,bb,rfl⟩
  ·exact⟨by have:=(h.fm x hx).1;omega,(h.fm x hx).2⟩
  ·exact a2 y bb
 ·show jY u (s.threads.modify t.toNat g).length j i x
  rw[hl];exact(h.holds i x hx).mono (KG _) hD
theorem gP(h:aX u D s)(ht:ef s t=some f)(J:cb u a6):aX u D (bs s t a6):=by
 obtain⟨_,_,fs,bK⟩:=jI ht;refine h.threads _ (fun gs bJ=>?_) (KG _);rw[bK] at bJ;injection bJ with bJ;subst bJ;have:=h.fm _ (KJ bK);simp only[List.dropLast_concat,KI,KR] at this ⊢;refine⟨this.1,fun x hx=>?_⟩;rcases KP.1 hx with hx|hx
 ·exact this.2 x (by simp[hx])
 ·have:x=a6:=by simpa using hx
  subst this;exact J
theorem Fw(h:aX u D s):aX u D (ug s t):=by
 refine h.threads _ (fun gs bJ=>?_) (KG _);have:=h.fm _ (KJ bJ);refine⟨by rw[List.length_dropLast];omega,fun x hx=>this.2 x (List.mem_of_mem_take (by rw[List.dropLast_eq_take] at hx;exact hx))⟩
theorem Ee(h:aX u D s)(J:cb u a6):aX u (D+1) (qn s t a6):=by
 refine h.threads _ (fun gs bJ=>?_) ad;have:=h.fm _ (KJ bJ);refine⟨by simp;omega,fun x hx=>?_⟩;rcases KP.1 hx with hx|hx
 ·exact this.2 x hx
 ·have:x=a6:=by simpa using hx
  subst this;exact J
theorem pO(hF:cb u f){p:cJ}(hp:u.procs[f.proc.toNat]?=some p)(h0:0≤k)(ac:k<p.code.length):cb u {f with pc:=k}:=by
 obtain⟨q,bK,_,av,aV⟩:=hF.ex;rw[hp] at bK;injection bK with bK;subst bK;exact⟨hF.proc,h0,⟨_,hp,ac,av,aV⟩,hF.fits,hF.av⟩
theorem vP(hF:cb u f)(hl:is.length=f.ints.length)(J:∀v∈is,Fits v):cb u {f with ints:=is}:=by
 obtain⟨q,bK,ac,av,aV⟩:=hF.ex;exact⟨hF.proc,hF.pc,⟨q,bK,ac,by show (is.length:Int)=_;rw[hl];exact av,aV⟩,J,hF.av⟩
theorem pU(hS:aX u D s)(hF:cb u f){p:cJ}(hp:u.procs[f.proc.toNat]?=some p):∀(es:List VE),(∀e∈es,gd (bx u) p.locals e)→
  ((cO s.globals f.ints es).2=0∨(cO s.globals f.ints es).2=1)∧((cO s.globals f.ints es).2=0→(cO s.globals f.ints es).1.length=es.length)∧∀v∈(cO s.globals f.ints es).1,Fits v
 | [],_=>⟨.inl rfl,fun _=>rfl,fun v h=>by simp[cO] at h⟩
 | e::es,h=>by
  obtain⟨ac,av,aV⟩:=pU hS hF hp es fun x hx=>h x (by simp[hx]);have he:=xB hS hF hp (h e (by simp));have a:=pK s.globals f.ints e;unfold cO;split
  ·rename_i bf;exact⟨a,fun h=>absurd h bf,fun v bM=>by simp at bM⟩
  ·split
   ·rename_i bf;exact⟨ac,fun h=>absurd h bf,fun v bM=>by simp at bM⟩
   ·rename_i heq;refine⟨.inl rfl,fun _=>by simp[av ad],fun v bM=>?_⟩;rcases KW.1 bM with rfl|bM
    ·exact he.2.2
    ·exact aV v bM
theorem ns(hU:cZ u)(hF:cb u f){nl nk:Int}(ap:nk≤f.av.length):∀(ps:List bR),(∀p∈ps,cU (bx u) nl nk p)→
  ((b0 u s f ps).2=0∨(b0 u s f ps).2=1∨(b0 u s f ps).2=2)∧((b0 u s f ps).2=0→(b0 u s f ps).1.length=ps.length)∧∀v∈(b0 u s f ps).1,0≤v∧v<elems u.af
 | [],_=>⟨.inl rfl,fun _=>rfl,fun v h=>by simp[b0] at h⟩
 | p::ps,h=>by
  obtain⟨ac,av,aV⟩:=ns hU hF ap ps fun x hx=>h x (by simp[hx]);have he:=jt (s:=s) hU hF ap (h p (by simp));unfold b0;split
  ·rename_i bf;exact⟨he.1,fun h=>absurd h bf,fun v bM=>by simp at bM⟩
  ·rename_i a;split
   ·rename_i bf;exact⟨ac,fun h=>absurd h bf,fun v bM=>by simp at bM⟩
   ·rename_i heq;refine⟨.inl rfl,fun _=>by simp[av ad],fun v bM=>?_⟩;rcases KW.1 bM with rfl|bM
    ·exact he.2 ad
    ·exact aV v bM
theorem rB(hU:cZ u){ls:List Int}{sg:Int×Int}(h0:0≤k)(hs:(bx u).sig[k.toNat]?=some sg)(an:(is.length:Int)=sg.1)(hl:(ls.length:Int)=sg.2)
  (J:∀v∈is,Fits v) (ap:∀v∈ls,0≤v∧v<elems u.af):cb u (da u k is ls):=by
 have a:(u.procs.map fun p=>(p.ints,p.av))[k.toNat]?=some sg:=hs;rw[List.getElem?_map] at a
 cases hp:u.procs[k.toNat]? with
 | none=>rw[hp] at a;cases a
 | some p=>
  rw[hp] at a;injection a with a;subst a;simp only[] at an hl;have aZ:=hU.procs p (KJ hp);obtain⟨c,hc,_⟩:=aZ.code;have bz:eV u k=p.locals.toNat:=by unfold eV;rw[hp];rfl
  have ac:=aZ.ints;refine⟨h0,Int.le_refl _,⟨p,hp,?_,?_,hl⟩,fun v bM=>?_,ap⟩
  ·show (0:Int)<(p.code.length:Int)
   rw[hc];simp
   try omega
  ·show ((is++List.replicate (eV u k - is.length) 0).length:Int)=p.locals
   rw[bz];simp;omega
  ·rcases KP.1 bM with bM|bM
   ·exact J v bM
   ·rw[(List.mem_replicate.1 bM).2];exact iq
theorem Fp(hF:cb u f){p:cJ}(hp:u.procs[f.proc.toNat]?=some p)(h:f.pc+1<p.code.length):cb u (next f):=
 pO hF hp (aD hF.pc) h
theorem uC{l:List Int}{v:Int}(h:∀x∈l,Fits x)(bM:Fits v):∀x∈l.set i v,Fits x:=by
 intro x hx;rcases List.mem_or_eq_of_mem_set hx with hx|rfl
 ·exact h x hx
 ·exact bM
theorem xD{k:Nat}(ap:k<T.length):T[k]?=some (jW T k):=by
 unfold jW;rw[Lc,List.getElem?_eq_getElem ap];rfl
theorem v7(hS:aX u D s)(h0:0≤e)(ht:0≤t∧t<s.threads.length)(bE:free u.af s.table e t=true):
  ∀i h,(s.table.set e.toNat ⟨t+1,(jW s.table e).depth+1⟩)[i]?=some h→jY u s.threads.length (D+1) i h:=by
 intro i h an;rw[List.getElem?_set] at an;split at an
 ·rename_i heq;subst heq;split at an
  ·rename_i ak;injection an with an;subst an;have a2:=xD (T:=s.table) ak;rw[show ((e.toNat:Nat):Int)=e by omega] at a2;have bn:=hS.holds _ _ a2;refine⟨⟨by show 0≤t+1;omega,by show t+1≤_;omega⟩,⟨by have:=bn.depth.1;show 0≤_+1;omega,by have:=bn.depth.2;show _+1≤((D+1:Nat):Int);omega⟩,?_,fun h=>?_⟩
   ·have:=bn.depth.1;show t+1=0↔(jW s.table e).depth+1=0
    omega
   ·have F:1<(jW s.table e).depth+1:=h;rw[show ((e.toNat:Nat):Int)=e by omega];unfold free at bE;simp only[KS,Bool.or_eq_true,beq_iff_eq,Ll] at bE;rcases bE.2 with av|av
    ·have:=bn.DM.1 av;omega
    ·exact av.2
  ·cases an
 ·exact(hS.holds i h an).mono (KG _) ad
theorem td(hS:aX u D s)(ah:heldBy u.af s.table e t=true):
  ∀i h,(s.table.set e.toNat (down (jW s.table e)))[i]?=some h→jY u s.threads.length D i h:=by
 intro i h an;unfold heldBy at ah;simp only[KS,beq_iff_eq,Ll] at ah;rw[List.getElem?_set] at an;split at an
 ·rename_i heq;subst heq;split at an
  ·rename_i ak;injection an with an;subst an;have h0:=(fQ.1 ah.1.1).1;have a2:=xD (T:=s.table) ak;rw[show ((e.toNat:Nat):Int)=e by omega] at a2;have bn:=hS.holds _ _ a2;have hd:(jW s.table e).depth≠0:=fun h=>by have:=bn.DM.2 h;omega
   have:=bn.depth;have aC:=bn.owner;unfold down;refine⟨?_,⟨by show 0≤_ - 1;omega,by show _ - 1≤_;omega⟩,?_,fun h=>bn.re (by have F:1<(jW s.table e).depth - 1:=h;omega)⟩
   ·simp only[];split<;>omega
   ·simp only[];split<;>omega
  ·cases an
 ·exact hS.holds i h an
theorem oo(a b:Int)(m:Bool)(bx:0≤a∧a≤4)(O:0≤b∧b≤4):0≤b9 a b m∧b9 a b m≤4:=by
 unfold b9
 repeat' split
 all_goals omega
theorem pC(a b:Int)(m:Bool)(h:b9 a b m=0):a=0∧b=0∧m=false:=by
 unfold b9 at h;by_cases bx:a=0
 ·by_cases O:b=0
  ·cases m
   ·exact⟨bx,O,rfl⟩
   ·simp[bx,O] at h
  ·simp[bx,O] at h
 ·simp[bx] at h
theorem mT(hU:cZ u)(hS:aX u D s):aX u (D+1) (bB u s t).1:=by
 unfold bB
 cases ht:ef s t with
 | none=>exact hS.mono ad
 | some f=>
  obtain⟨hF,dg,cr⟩:=hS.top ht;obtain⟨p,x,hp,aZ,hx,len,hlen,an,cp⟩:=pT hU hF;have b:dW u s t=some x:=by unfold dW;rw[ht];simp[hp,hx]
  rw[b];simp only[];obtain⟨q,bK,_,cD,bO⟩:=hF.ex;have I:p=q:=by rw[hp] at bK;injection bK
  subst I;have U:aX u (D+1) s:=hS.mono ad;have hN:x.op≠8→cb u (next f):=fun h=>Fp hF hp (cp h);unfold bW;rcases an with⟨ac,⟨e,he,bn⟩,av,aV,bz⟩|⟨ac,a2,sg,av,aV,bz,cm,aY,g⟩|⟨ac,a2,av⟩|⟨ac,a2,⟨e,he,bn⟩,av,aV⟩|⟨ac,a2,av,aV⟩|⟨ac,a2⟩
  ·
   have ar:=xB hS hF hp bn;have a:=pK s.globals f.ints e;rw[if_pos (.inl ac),he];simp only[Option.getD_some];split
   ·exact U.pL ad
   ·rw[if_neg ad]
    cases ci:x.dg with
    | true=>
     simp only[if_true];have:=gP U ht (hN ad)
     exact⟨this.x0,this.fm,by show (s.globals.set _ _).length=_;rw[List.length_set];exact hS.dg,uC hS.mB ar.2.2,this.table,this.holds,this.fault⟩
    | false=>
     simp only[Lm,if_false];exact gP U ht (vP (hN ad) (List.length_set ..) (uC hF.fits ar.2.2))
  ·
   have hI:=pU hS hF hp x.ints aY;have bS:=ns (s:=s) hU hF ad x.places g;rw[if_neg ad,if_pos ac];simp only[];by_cases bf:b9 (cO s.globals f.ints x.ints).2 (b0 u s f x.places).2 (decide (x.op=3∧32≤s.threads.length))≠0
   ·rw[if_pos bf];exact U.pL (oo _ _ _ ad ad)
   ·rw[if_neg bf];obtain⟨bx,O,hm⟩:=pC _ _ _ (Classical.not_not.1 bf);have bE:=rB hU (k:=x.target) av aV (by rw[hI.2.1 bx];exact bz) (by rw[bS.2.1 O];exact cm) hI.2.2 bS.2.2;have hT:=gP U ht (hN ad);by_cases l:x.op=3
    ·rw[if_pos l];have bg:s.threads.length<32:=by
      simp only[decide_eq_false_iff_not,not_and] at hm;have:=hm l;omega
     have hl:(bs s t (next f)).threads.length=s.threads.length:=List.length_modify ..;refine⟨?_,fun y bb=>?_,hT.dg,hT.mB,hT.table,fun i y bb=>?_,hT.fault⟩
     ·simp only[KI,KR,hl];omega
     ·rcases KP.1 bb with bb|bb
      ·exact hT.fm y bb
      ·have:y=[da u x.target (cO s.globals f.ints x.ints).1 (b0 u s f x.places).1]:=by simpa using bb
       subst this;refine⟨by simp,fun z bt=>?_⟩;have:z=da u x.target (cO s.globals f.ints x.ints).1 (b0 u s f x.places).1:=by simpa using bt
       subst this;exact bE
     ·refine(hT.holds i y bb).mono ?_ (KG _);simp only[KI];omega
    ·rw[if_neg l];exact Ee (gP hS ht (hN ad)) bE
  ·
   have aw:=jt (s:=s) hU hF ad av;rw[if_neg ad,if_neg ad,if_pos ac];simp only[];split
   ·refine U.pL ?_;rcases aw.1 with h|h|h<;>omega
   ·rename_i heq;have a5:=aw.2 ad;have hT:=gP U ht (hN ad);have hl:(bs s t (next f)).threads.length=s.threads.length:=List.length_modify ..;split
    ·split
     ·rename_i bE;refine⟨hT.x0,hT.fm,hT.dg,hT.mB,by show (fw _ _ _ _).length=_;rw[fa];exact hS.table,fun i y bb=>?_,hT.fault⟩;show jY u (bs s t (next f)).threads.length (D+1) i y
      rw[hl];refine v7 hS a5.1 ⟨dg,cr⟩ bE i y ?_;have d:(fw u.af s.table (bG u s f x.place).1 t)[i]?=some y:=bb;unfold fw at d;rw[if_pos bE] at d;exact d
     ·exact U
    ·split
     ·rename_i ah;refine⟨hT.x0,hT.fm,hT.dg,hT.mB,by show (cV _ _ _ _).length=_;rw[eZ];exact hS.table,fun i y bb=>?_,hT.fault⟩;show jY u (bs s t (next f)).threads.length (D+1) i y
      rw[hl];refine(td hS ah i y ?_).mono (KG _) ad;have d:(cV u.af s.table (bG u s f x.place).1 t)[i]?=some y:=bb;unfold cV at d;rw[if_pos ah] at d;exact d
     ·exact U.pL ad
  ·
   have a:=pK s.globals f.ints e;rw[if_pos (.inr ac),he];simp only[Option.getD_some];split
   ·exact U.pL ad
   ·try rw[if_pos ac]
    refine gP U ht ?_;split
    ·exact pO hF hp av (by rw[hlen];omega)
    ·exact hN ad
  ·rw[if_neg ad,if_neg ad,if_neg ad,if_pos ac];exact gP U ht (pO hF hp av (by rw[hlen];omega))
  ·rw[if_neg ad,if_neg ad,if_neg ad,if_neg ad];exact Fw U
theorem oM(hU:cZ u):aX u 0 (dA u):=by
 obtain⟨p,h0,hp,an,hl⟩:=hU.main;have J:cb u (da u u.main [] []):=by
  refine rB hU h0 (sg:=(0,0)) ?_ rfl rfl (fun v bM=>by simp at bM) (fun v bM=>by simp at bM);show (u.procs.map fun p=>(p.ints,p.av))[u.main.toNat]?=_
  rw[List.getElem?_map,hp];simp[an,hl]
 refine⟨by show 1≤[[da u u.main [] []]].length∧_;simp[dA],fun t ht=>?_,rfl,fun v bM=>?_,by simp[dA],fun i h an=>?_,by simp[dA]⟩
 ·have:t=[da u u.main [] []]:=by simpa[dA] using ht
  subst this;refine⟨by simp,fun x hx=>?_⟩;have:x=da u u.main [] []:=by simpa using hx
  subst this;exact J
 ·have:=hU.globals v bM;unfold Fits;omega
 ·have r:(List.replicate (own u.af).length (⟨0,0⟩:cy))[i]?=some h:=an;rw[List.getElem?_replicate] at r;split at r
  ·injection r with r;subst r;exact⟨⟨by simp,by simp⟩,⟨by simp,by simp⟩,by simp,fun h=>by simp at h⟩
  ·cases r
end
def JL(l:List Int)(t:Int):Int:=if t<0 then -1 else l.getD t.toNat (-1)
def Jc(l:List Int):Nat→Int→Int
 | 0,t=>t
 | k+1,t=>if t<0 then t else Jc l k (JL l t)
section
variable {l:List Int}
def yX(l:List Int)(t:Int):Prop:=∀k,0≤Jc l k t
theorem yX.next{t:Int}(h:yX l t):yX l (JL l t):=fun k=>by
 have h0:=h 0;have:=h (k+1);rw[Jc,if_neg (by exact Int.not_lt.2 h0)] at this;exact this
end
def od(u:ay)(s:aj)(t:Int):Option (Int×Int):=
 match ef s t,dW u s t with
 | some f,some x=>if x.op=4 then
   if (bG u s f x.place).2≠0 then none else if free u.af s.table (bG u s f x.place).1 t=true then none
   else some ((bG u s f x.place).1,(jW s.table (bG u s f x.place).1).owner - 1) else none
 | _,_=>none
def IU(u:ay)(s:aj)(t:Int):Bool:=(dW u s t).isSome && (od u s t).isNone
section
variable {u:ay} {D:Nat} {s:aj} {t:Int}
theorem tP(h:ef s t=none):dW u s t=none:=by unfold dW;rw[h];rfl
theorem ma(h:od u s t=some r):∃f x,ef s t=some f∧dW u s t=some x∧x.op=4∧(bG u s f x.place).2=0∧free u.af s.table (bG u s f x.place).1 t=false∧
  r=((bG u s f x.place).1,(jW s.table (bG u s f x.place).1).owner - 1):=by
 unfold od at h;split at h
 ·rename_i f x J hx;split at h
  ·rename_i cy;split at h
   ·cases h
   ·rename_i E;split at h
    ·cases h
    ·rename_i bE;injection h with h;exact⟨f,x,J,hx,cy,ad,by simpa using bE,h.symm⟩
  ·cases h
 ·cases h
theorem E6(hU:cZ u)(hS:aX u D s):IU u s t=(bB u s t).2:=by
 unfold IU od bB
 cases J:ef s t with
 | none=>rw[tP J];rfl
 | some f=>
  cases hx:dW u s t with
  | none=>rfl
  | some x=>
   simp only[Option.isSome_some,Bool.true_and];unfold bW;by_cases ac:x.op=1∨x.op=6
   ·rw[if_pos ac,if_neg ad];simp only[]
    repeat' split
    all_goals rfl
   ·rw[if_neg ac];by_cases av:x.op=2∨x.op=3
    ·rw[if_pos av,if_neg ad];simp only[]
     repeat' split
     all_goals rfl
    ·rw[if_neg av];by_cases bz:x.op=4
     ·rw[if_pos bz,if_pos (Or.inl bz)];simp only[bz,if_true]
      repeat' split
      all_goals first|rfl|simp_all
     ·rw[if_neg bz];simp only[]
      repeat' split
      all_goals first|rfl|omega
def j0:VE→Prop
 | .iC _=>False
 | .un _ x=>j0 x
 | .bin _ x y=>j0 x∧j0 y
 | _=>True
theorem kV(g ag l:List Int):∀x:VE,j0 x→ev g l x=ev ag l x
 | .num _,_=>rfl
 | .g0 _,_=>rfl
 | .loc _,_=>rfl
 | .iC _,h=>h.elim
 | .un op x,h=>by
  have ao:=kV g ag l x h
  simp only[ev,ao]
 | .bin op x y,h=>by
  have i:=kV g ag l x h.1;have c:=kV g ag l y h.2;simp only[ev,i,c]
structure xb(u:ay)(s:aj)(t e o:Int):Prop where
 waits:od u s t=some (e,o)
 o0:0≤o
 j0:∀x v,dW u s t=some x→x.place.at_=some v→j0 v
theorem vK{f:al}{p:bR}(h:∀v,p.at_=some v→j0 v):bG u Q f p=bG u s f p:=by
 have an:cS u Q f p=cS u s f p:=by
  unfold cS
  cases hp:p.at_ with
  | none=>rfl
  | some v=>simp only[kV Q.globals s.globals f.ints v (h v hp)]
 unfold bG;rw[an]
theorem xb.ak(h:xb u s t e o)(ht:ef Q t=ef s t)(ah:jW Q.table e=jW s.table e):xb u Q t e o:=by
 obtain⟨f,x,J,hx,cy,E,bE,a5⟩:=ma h.waits;have g:dW u Q t=some x:=by
  unfold dW at hx ⊢;rw[ht];exact hx
 have he:=vK (u:=u) (s:=s) (Q:=Q) (f:=f) (p:=x.place) fun v bM=>h.j0 x v hx bM;injection a5 with ar bw;refine⟨?_,h.o0,fun y v bb bM=>?_⟩
 ·unfold od;rw[ht,J,g];simp only[];rw[if_pos cy,he,if_neg ad];have a:free u.af Q.table (bG u s f x.place).1 t=false:=by
   rw[←ar];rw[←ar] at bE;unfold free at bE ⊢;rw[ah];exact bE
  rw[if_neg (by simp[a]),←ar,ah,←ar] at *;simp[bw]
 ·rw[g] at bb;injection bb with bb;subst bb;exact h.j0 x v hx bM
theorem h3{l:List (List al)}{j:Nat}{g:List al→List al}(h:i≠j):(l.modify i g)[j]?=l[j]?:=by
 rw[List.getElem?_modify]
 cases l[j]? with
 | none=>rfl
 | some y=>simp[h]
theorem uN{s:aj}(J:Q.fault=s.fault)(h:Q.threads[t.toNat]?=s.threads[t.toNat]?):ef Q t=ef s t:=by
 unfold ef;rw[J,h]
theorem wJ(hU:cZ u)(ht:0≤t∧t<s.threads.length)(hp:p≠t)(b1:s.fault=0)(J:(bB u s p).1.fault=0):ef (bB u s p).1 t=ef s t:=by
 refine uN (J.trans b1.symm) ?_;unfold bB at J ⊢
 cases bK:ef s p with
 | none=>rfl
 | some f=>
  have m:0≤p:=(jI bK).2.1;have bf:p.toNat≠t.toNat:=ad
  cases hx:dW u s p with
  | none=>rfl
  | some x=>
   simp only[];unfold bW;simp only[]
   repeat' split
   all_goals simp only[bs,qn,ug]
   all_goals first
    | rfl
    | exact h3 bf
    | (rw[h3 bf];exact h3 bf)
    | (rw[List.getElem?_append_left (by rw[List.length_modify];omega)];exact h3 bf)
theorem DT{l:Int}(h0:0≤bt X e∨True)(he:0≤e)(bn:(jW T e).owner≠0)(hp:(jW T e).owner≠p+1):jW (fw X T l p) e=jW T e:=by
 unfold fw;split
 ·rename_i bE;by_cases g:l=e
  ·subst g;unfold free at bE;simp[bn,hp] at bE
  ·have a:0≤l:=by
    unfold free at bE;simp only[KS,Ll] at bE;exact(fQ.1 bE.1.1).1
   unfold jW;rw[List.getElem?_set_ne ad]
 ·rfl
theorem wX{l:Int}(he:0≤e)(hp:(jW T e).owner≠p+1):jW (cV X T l p) e=jW T e:=by
 unfold cV;split
 ·rename_i ah;by_cases g:l=e
  ·subst g;unfold heldBy at ah;simp[hp] at ah
  ·have a:0≤l:=by
    unfold heldBy at ah;simp only[KS,Ll] at ah;exact(fQ.1 ah.1.1).1
   unfold jW;rw[List.getElem?_set_ne ad]
 ·rfl
theorem wK(he:0≤e)(bn:(jW s.table e).owner≠0)(hp:(jW s.table e).owner≠p+1):jW (bB u s p).1.table e=jW s.table e:=by
 unfold bB
 cases bK:ef s p with
 | none=>rfl
 | some f=>
  cases hx:dW u s p with
  | none=>rfl
  | some x=>
   simp only[];unfold bW;simp only[]
   repeat' split
   all_goals first
    | rfl
    | exact DT (.inr trivial) he bn hp
    | exact wX he hp
theorem j4(h:(bB u s t).2=false):(bB u s t).1=s:=by
 unfold bB at h ⊢
 cases bK:ef s t with
 | none=>rfl
 | some f=>
  cases hx:dW u s t with
  | none=>rfl
  | some x=>
   rw[bK,hx] at h;simp only[] at h ⊢;unfold bW at h ⊢;simp only[] at h ⊢
   repeat' split
   all_goals first
    | rfl
    | (exfalso;simp_all;done)
    | (exfalso;revert h;repeat' split;all_goals simp_all)
theorem uR(hU:cZ u)(hS:aX u D s)(h:od u s t=some (e,o)):0≤e∧(jW s.table e).owner=o+1∧0≤t∧t<s.threads.length:=by
 obtain⟨f,x,J,hx,cy,E,bE,a5⟩:=ma h;injection a5 with ar bw;have ht:=hS.top J;refine⟨?_,by rw[ar];omega,ht.2.1,ht.2.2⟩;obtain⟨p,y,hp,aZ,bb,len,hlen,an,_⟩:=pT hU ht.1;have c:x=y:=by
  unfold dW at hx;rw[J] at hx;simp only[Option.bind_some,hp,bb,Lj] at hx;exact hx.symm
 subst c;obtain⟨q,bK,_,_,ap⟩:=ht.1.ex;rw[hp] at bK;injection bK with bK;subst bK;have bk:cU (bx u) p.locals p.av x.place:=by
  rcases an with⟨ac,_⟩|⟨ac,_⟩|⟨ac,_,av⟩|⟨ac,_⟩|⟨ac,_⟩|⟨ac,_⟩
  ·omega
  ·omega
  ·exact av
  ·omega
  ·omega
  ·omega
 have:=(jt (s:=s) hU ht.1 ad bk).2 ad;rw[ar];exact this.1
theorem tg(h:od u s t=some r):IU u s t=false:=by unfold IU;rw[h];simp
def pa(u:ay)(s:aj)(d:List Int):Prop:=∀t∈d,∃e o,xb u s t e o∧o∈d
theorem pa.step{d:List Int}(hU:cZ u)(hS:aX u D s)(h:pa u s d)(p:Int)(J:(bB u s p).1.fault=0):pa u (bB u s p).1 d:=by
 by_cases hp:p∈d
 ·obtain⟨e,o,hs,_⟩:=h p hp;rw[j4 (by rw[←E6 hU hS];exact tg hs.waits)];exact h
 ·intro t ht;obtain⟨e,o,hs,bn⟩:=h t ht;obtain⟨f,x,az,_⟩:=ma hs.waits;obtain⟨ac,av,aV,bz⟩:=uR hU hS hs.waits;have dP:p≠t:=fun e=>hp (by rw[e];exact ht);have b2:p≠o:=fun e=>hp (by rw[e];exact bn);have h0:=hs.o0;exact⟨e,o,hs.ak (wJ hU ⟨aV,bz⟩ dP (jI az).1 J) (wK ac ad ad),bn⟩
end
end Go.Proofs.YtnhhdaggkiomoaaGreat
