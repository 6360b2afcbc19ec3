/- Part 9 of the proof. No condition of its own. -/
import Derived.Test.YtkhnkojkplbioaaGreatQ08
namespace Go.Proofs.YtkhnkojkplbioaaGreat
open Go.RowKit Go.Proofs.Tryz
set_option maxRecDepth 1000000
set_option maxHeartbeats 25600000
set_option linter.unusedVariables false
variable{F e k o p:Int}{r:Int×Int}{is:List Int}{X:List bD}{T:List bV}{i:Nat}{Q:ai}
def de(s:ai)(t:Int):Option ak:=if s.fault≠0\/t<0 then none else (s.threads[t.toNat]?).bind List.getLast?
def cU(u:ay)(s:ai)(t:Int):Option az:=(de s t).bind λf=>(u.procs[f.proc.toNat]?).bind λp=>p.code[f.pc.toNat]?
def cK(u:ay)(s:ai)(f:ak)(p:bN):Int×Int:=
 match p.at_ with
 | none=>(0,0)
 | some e=>idx (((u.af[p.index.toNat]?).map bD.size).getD 0) (ev s.globals f.ints e)
def bo(u:ay)(s:ai)(f:ak)(p:bN):Int×Int:=
 if p.param then (f.au.getD p.index.toNat 0,0)
 else if (cK u s f p).2≠0 then (0,(cK u s f p).2) else (eL u.af p.index+(cK u s f p).1,0)
def x5(u:ay)(s:ai)(t:Int)(p:bN):Int×Int:=match de s t with
 | none=>(0,0)
 | some f=>bo u s f p
def cC(g l:List Int):List VE->List Int×Int
 | []=>([],0)
 | e::es=>if (ev g l e).2≠0 then ([],(ev g l e).2) else if (cC g l es).2≠0 then ([],(cC g l es).2) else ((ev g l e).1::(cC g l es).1,0)
def bL(u:ay)(s:ai)(f:ak):List bN->List Int×Int
 | []=>([],0)
 | p::ps=>if (bo u s f p).2≠0 then ([],(bo u s f p).2) else if (bL u s f ps).2≠0 then ([],(bL u s f ps).2) else ((bo u s f p).1::(bL u s f ps).1,0)
def eY(u:ay)(k:Int):Nat:=(((u.procs[k.toNat]?).map cM.locals).getD 0).toNat
def cY(u:ay)(k:Int)(is ls:List Int):ak:=⟨k,0,is++List.replicate (eY u k - is.length) 0,ls⟩
def dG(u:ay):ai:=⟨u.globals,List.replicate (own u.af).length ⟨0,0⟩,[[cY u u.main [] []]],0⟩
def aT(s:ai)(t:Int)(f:ak):ai:={s with threads:=s.threads.modify t.toNat λfs=>fs.dropLast++[f]}
def kM(s:ai)(t:Int)(f:ak):ai:={s with threads:=s.threads.modify t.toNat λfs=>fs++[f]}
def qJ(s:ai)(t:Int):ai:={s with threads:=s.threads.modify t.toNat List.dropLast}
def next(f:ak):ak:={f with pc:=f.pc+1}
def bX(a b:Int)(many:Bool):Int:=if a≠0 then a else if b≠0 then b else if many then 4 else 0
def bI(u:ay)(s:ai)(t:Int)(f:ak)(x:az):ai×Bool:=
 if x.op=1\/x.op=6 then
  let r:=ev s.globals f.ints (x.expr.getD (.num 0))
  if r.2≠0 then ({s with fault:=r.2},true)
  else if x.op=6 then (aT s t (if r.1=0 then {f with pc:=x.target} else next f),true)
  else if x.c7 then ({aT s t (next f) with globals:=s.globals.set x.target.toNat r.1},true)
  else (aT s t {next f with ints:=f.ints.set x.target.toNat r.1},true)
 else if x.op=2\/x.op=3 then
  let a:=cC s.globals f.ints x.ints
  let b:=bL u s f x.places
  let e:=bX a.2 b.2 (decide (x.op=3/\32<=s.threads.length))
  if e≠0 then ({s with fault:=e},true)
  else if x.op=3 then ({aT s t (next f) with threads:=(aT s t (next f)).threads++[[cY u x.target a.1 b.1]]},true)
  else (kM (aT s t (next f)) t (cY u x.target a.1 b.1),true)
 else if x.op=4\/x.op=5 then
  let r:=bo u s f x.place
  if r.2≠0 then ({s with fault:=r.2},true)
  else if x.op=4 then (if free u.af s.table r.1 t then ({aT s t (next f) with table:=fm u.af s.table r.1 t},true) else (s,false))
  else (if heldBy u.af s.table r.1 t then ({aT s t (next f) with table:=cL u.af s.table r.1 t},true) else ({s with fault:=3},true))
 else if x.op=7 then (aT s t {f with pc:=x.target},true)
 else (qJ s t,true)
def aV(u:ay)(s:ai)(t:Int):ai×Bool:=match de s t,cU u s t with
 | some f,some x=>bI u s t f x
 | _,_=>(s,false)
theorem pe:∀x:VE,x.lit->x.fit
 | .num n,h=>by
  have F:0<=n/\n<=9223372036854775807:=h;show Fits n
  unfold Fits;omega
 | .g7 _,_=>trivial
 | .loc _,_=>trivial
 | .iF _,_=>trivial
 | .un _ x,h=>pe x h
 | .bin _ x y,h=>⟨pe x h.1,pe y h.2⟩
structure cc(u:ay)(f:ak):Prop where
 proc:0<=f.proc
 pc:0<=f.pc
 ex:∃p,u.procs[f.proc.toNat]?=some p/\f.pc<p.code.length/\(f.ints.length:Int)=p.locals/\(f.au.length:Int)=p.au
 fits:∀v∈f.ints,Fits v
 au:∀k∈f.au,0<=k/\k<elems u.af
structure j4(u:ay)(n D:Nat)(i:Nat)(h:bV):Prop where
 owner:0<=h.owner/\h.owner<=n
 depth:0<=h.depth/\h.depth<=D
 Ep:h.owner=0↔h.depth=0
 re:1<h.depth->w5 u.af (bx u.af i)=true
structure aX(u:ay)(D:Nat)(s:ai):Prop where
 xl:1<=s.threads.length/\s.threads.length<=32
 ft:∀t∈s.threads,t.length<=D+1/\∀f∈t,cc u f
 c7:s.globals.length=u.globals.length
 mN:∀v∈s.globals,Fits v
 table:s.table.length=(own u.af).length
 holds:∀i h,s.table[i]?=some h->j4 u s.threads.length D i h
 fault:0<=s.fault/\s.fault<=4
theorem j4.mono{u:ay}{n aP D j:Nat}{h:bV}(ah:j4 u n D i h)(hn:n<=aP)(hD:D<=j):j4 u aP j i h:=
 ⟨⟨ah.owner.1,by have:=ah.owner.2;omega⟩,⟨ah.depth.1,by have:=ah.depth.2;omega⟩,ah.Ep,ah.re⟩
section
variable {u:ay} {D:Nat} {s:ai} {t:Int} {f:ak}
theorem gy(h:de s t=some f):s.fault=0/\0<=t/\∃fs,s.threads[t.toNat]?=some (fs++[f]):=by
 unfold de at h;split at h
 .cases h
 .rename_i hc;refine⟨ad,ad,?_⟩
  cases bA:s.threads[t.toNat]? with
  | none=>rw[bA] at h;cases h
  | some l=>
   rw[bA] at h;have F:l.getLast?=some f:=h;obtain⟨b3,rfl⟩:=List.getLast?_eq_some_iff.1 F;exact⟨b3,rfl⟩
theorem aX.top(hS:aX u D s)(h:de s t=some f):cc u f/\0<=t/\t<s.threads.length:=by
 obtain⟨_,h0,fs,bA⟩:=gy h;have al:=(List.getElem?_eq_some_iff.1 bA).1;exact⟨(hS.ft _ (Ln bA)).2 f (by simp),h0,ad⟩
theorem ql(hU:c5 u)(hF:cc u f):∃p x,u.procs[f.proc.toNat]?=some p/\qK (bC u) p/\p.code[f.pc.toNat]?=some x/\∃len:Nat,p.code.length=len+1/\h7 (bC u) p.locals p.au len x/\(x.op≠8->f.pc+1<p.code.length):=by
 obtain⟨p,hp,db,_,_⟩:=hF.ex;have a1:=hU.procs p (Ln hp);obtain⟨c,hc,_,ap⟩:=a1.code;have h0:=hF.pc;have hlen:p.code.length=c.length+1:=by rw[hc];simp
 have hx:p.code[f.pc.toNat]?=some (p.code[f.pc.toNat]'ad):=List.getElem?_eq_getElem _;refine⟨p,_,hp,a1,hx,c.length,hlen,?_⟩;by_cases al:f.pc.toNat<c.length
 .have he:p.code[f.pc.toNat]'ad=c[f.pc.toNat]:=by
   simp only[hc];exact List.getElem_append_left al
  rw[he];exact⟨ap _ (List.getElem_mem _),λ_=>ad⟩
 .have he:p.code[f.pc.toNat]'ad=nF:=by
   simp only[hc];rw[List.getElem_append_right ad];simp
  rw[he];exact⟨.inr (.inr (.inr (.inr (.inr ⟨rfl,rfl⟩)))),λh=>absurd rfl h⟩
theorem x7(hS:aX u D s)(hF:cc u f){p:cM}(hp:u.procs[f.proc.toNat]?=some p){e:VE}(he:gj (bC u) p.locals e):
  e.ok s.globals.length f.ints.length/\n8 s.globals f.ints e/\Fits (ev s.globals f.ints e).1:=by
 obtain⟨q,bA,_,hl,_⟩:=hF.ex;rw[hp] at bA;injection bA with bA;subst bA;have ac:e.ok s.globals.length f.ints.length:=by
  rw[hS.c7];have:=he.1;rw[show p.locals.toNat=f.ints.length by omega] at this;exact this
 have i:=pe e he.2;exact⟨ac,⟨hS.mN,hF.fits,i⟩,tg hS.mN hF.fits e i⟩
end
theorem c5.vB{u:ay}(h:c5 u):ns u.af:=⟨by have:=h.wV;omega,h.fB⟩
theorem DR(op a b:Int):(arith op a b).2=0\/(arith op a b).2=1:=by
 unfold arith
 repeat' split
 all_goals simp
theorem qb(g l:List Int):∀x:VE,(ev g l x).2=0\/(ev g l x).2=1
 | .num _=>.inl rfl
 | .g7 _=>.inl rfl
 | .loc _=>.inl rfl
 | .iF _=>.inl rfl
 | .un op x=>by
  have ao:=qb g l x;unfold ev
  repeat' split
  all_goals first|exact ao|exact .inl rfl
 | .bin op x y=>by
  have i:=qb g l x;have c:=qb g l y;unfold ev
  repeat' split
  all_goals first|exact i|exact c|exact .inl rfl|exact DR _ _ _
theorem FY(m:Int)(r:Int×Int)(h:r.2=0\/r.2=1):(idx m r).2=0\/(idx m r).2=1\/(idx m r).2=2:=by
 unfold idx
 repeat' split
 all_goals simp
 all_goals omega
theorem H6(m:Int)(r:Int×Int)(h:(idx m r).2=0):0<=(idx m r).1/\(idx m r).1<m:=by
 unfold idx at h ⊢;split at h
 .rename_i ac;exact absurd h ac
 .split at h
  .simp at h
  .rename_i ac au;rw[if_neg ac,if_neg au];simp only[];omega
section
variable {u:ay} {D j:Nat} {s:ai} {t:Int} {f a5:ak}
theorem jA(hU:c5 u)(hF:cc u f){p:bN}{nl nk:Int}(ap:nk<=f.au.length)(hp:cW (bC u) nl nk p):
  ((bo u s f p).2=0\/(bo u s f p).2=1\/(bo u s f p).2=2)/\((bo u s f p).2=0->0<=(bo u s f p).1/\(bo u s f p).1<elems u.af):=by
 unfold bo;rcases hp with⟨ac,au,aY,bR⟩|⟨ac,m,au,aY,bR,cI⟩
 .rw[if_pos ac];refine⟨.inl rfl,λ_=>?_⟩;have al:p.index.toNat<f.au.length:=ad;have:f.au.getD p.index.toNat 0=f.au[p.index.toNat]:=by rw[List.getD_eq_getElem?_getD,List.getElem?_eq_getElem al];rfl
  simp only[this];exact hF.au _ (List.getElem_mem _)
 .rw[if_neg (by simp[ac])];have hm:u.af[p.index.toNat]?=some m:=aY;have bI:=hU.fB m (Ln hm);obtain⟨i,an⟩:=Lp au;rw[an,LI] at hm;have al:=(List.getElem?_eq_some_iff.1 hm).1;have O:eL u.af p.index=elems (u.af.take i):=by rw[an];exact kY al
  have h0:=(hU.vB).kZ i;have K:elems (u.af.take i)+m.num<=elems u.af:=by
   have:=lF u.af (i+1);rw[List.take_add_one,hm] at this;simp only[Option.toList_some,gM] at this;exact this
  have y:=m.mX;have a:((cK u s f p).2=0\/(cK u s f p).2=1\/(cK u s f p).2=2)/\((cK u s f p).2=0->0<=(cK u s f p).1/\(cK u s f p).1<m.num):=by
   unfold cK;by_cases bv:0<m.size
   .obtain⟨e,he,_⟩:=bR bv;have F:((u.af[p.index.toNat]?).map bD.size).getD 0=m.size:=by rw[an,LI,hm];rfl
    rw[he];simp only[F];refine⟨FY _ _ (qb _ _ _),λh=>?_⟩;have:=H6 _ _ h;unfold bD.num;omega
   .rw[cI bv];refine⟨.inl rfl,λ_=>⟨Int.le_refl _,?_⟩⟩;simp only[];omega
  split
  .rename_i bf;exact⟨a.1,λh=>absurd h bf⟩
  .rename_i heq;refine⟨.inl rfl,λ_=>?_⟩;have:=a.2 ad;simp only[O];omega
theorem qt{α:Type}{l:List α}{g:α->α}{x:α}(h:x∈l.modify i g):x∈l\/∃y,l[i]?=some y/\x=g y:=by
 obtain⟨k,ap⟩:=List.getElem?_of_mem h;rw[List.getElem?_modify] at ap;split at ap
 .rename_i heq;subst heq
  cases bb:l[i]? with
  | none=>rw[bb] at ap;cases ap
  | some y=>
   rw[bb] at ap;exact .inr ⟨y,rfl,by simpa using ap.symm⟩
 .exact .inl (Ln (by simpa using ap))
theorem aX.mono(h:aX u D s)(hD:D<=j):aX u j s:=
 ⟨h.xl,λt ht=>⟨by have:=(h.ft t ht).1;omega,(h.ft t ht).2⟩,h.c7,h.mN,h.table,λi x hx=>(h.holds i x hx).mono (Lk _) hD,h.fault⟩
theorem aX.qd(h:aX u D s)(he:0<=e/\e<=4):aX u D {s with fault:=e}:=
 ⟨h.xl,h.ft,h.c7,h.mN,h.table,h.holds,he⟩
theorem aX.threads(h:aX u D s)(g:List ak->List ak)(a9:∀fs,s.threads[t.toNat]?=some fs->(g fs).length<=j+1/\∀f∈g fs,cc u f)(hD:D<=j) :
  aX u j {s with threads:=s.threads.modify t.toNat g}:=by
 have hl:(s.threads.modify t.toNat g).length=s.threads.length:=List.length_modify ..;refine⟨by show 1<=(s.threads.modify t.toNat g).length/\_<=32;rw[hl];exact h.xl,λx hx=>?_,h.c7,h.mN,h.table,λi x hx=>?_,h.fault⟩
 .rcases qt hx with hx|⟨y,bb,rfl⟩
  .exact⟨by have:=(h.ft x hx).1;omega,(h.ft x hx).2⟩
  .exact a9 y bb
 .show j4 u (s.threads.modify t.toNat g).length j i x
  rw[hl];exact(h.holds i x hx).mono (Lk _) hD
theorem gV(h:aX u D s)(ht:de s t=some f)(J:cc u a5):aX u D (aT s t a5):=by
 obtain⟨_,_,fs,bA⟩:=gy ht;refine h.threads _ (λgs bz=>?_) (Lk _);rw[bA] at bz;injection bz with bz;subst bz;have:=h.ft _ (Ln bA);simp only[List.dropLast_concat,Lm,Lv] at this ⊢;refine⟨this.1,λx hx=>?_⟩;rcases Lt.1 hx with hx|hx
 .exact this.2 x (by simp[hx])
 .have:x=a5:=by simpa using hx
  subst this;exact J
theorem Gb(h:aX u D s):aX u D (qJ s t):=by
 refine h.threads _ (λgs bz=>?_) (Lk _);have:=h.ft _ (Ln bz);refine⟨by rw[List.length_dropLast];omega,λx hx=>this.2 x (List.mem_of_mem_take (by rw[List.dropLast_eq_take] at hx;exact hx))⟩
theorem EV(h:aX u D s)(J:cc u a5):aX u (D+1) (kM s t a5):=by
 refine h.threads _ (λgs bz=>?_) ad;have:=h.ft _ (Ln bz);refine⟨by simp;omega,λx hx=>?_⟩;rcases Lt.1 hx with hx|hx
 .exact this.2 x hx
 .have:x=a5:=by simpa using hx
  subst this;exact J
theorem qg(hF:cc u f){p:cM}(hp:u.procs[f.proc.toNat]?=some p)(h0:0<=k)(ac:k<p.code.length):cc u {f with pc:=k}:=by
 obtain⟨q,bA,_,au,aY⟩:=hF.ex;rw[hp] at bA;injection bA with bA;subst bA;exact⟨hF.proc,h0,⟨_,hp,ac,au,aY⟩,hF.fits,hF.au⟩
theorem wy(hF:cc u f)(hl:is.length=f.ints.length)(J:∀v∈is,Fits v):cc u {f with ints:=is}:=by
 obtain⟨q,bA,ac,au,aY⟩:=hF.ex;exact⟨hF.proc,hF.pc,⟨q,bA,ac,by show (is.length:Int)=_;rw[hl];exact au,aY⟩,J,hF.au⟩
theorem qn(hS:aX u D s)(hF:cc u f){p:cM}(hp:u.procs[f.proc.toNat]?=some p):∀(es:List VE),(∀e∈es,gj (bC u) p.locals e)->
  ((cC s.globals f.ints es).2=0\/(cC s.globals f.ints es).2=1)/\((cC s.globals f.ints es).2=0->(cC s.globals f.ints es).1.length=es.length)/\∀v∈(cC s.globals f.ints es).1,Fits v
 | [],_=>⟨.inl rfl,λ_=>rfl,λv h=>by simp[cC] at h⟩
 | e::es,h=>by
  obtain⟨ac,au,aY⟩:=qn hS hF hp es λx hx=>h x (by simp[hx]);have he:=x7 hS hF hp (h e (by simp));have a:=qb s.globals f.ints e;unfold cC;split
  .rename_i bf;exact⟨a,λh=>absurd h bf,λv bG=>by simp at bG⟩
  .split
   .rename_i bf;exact⟨ac,λh=>absurd h bf,λv bG=>by simp at bG⟩
   .rename_i heq;refine⟨.inl rfl,λ_=>by simp[au ad],λv bG=>?_⟩;rcases LC.1 bG with rfl|bG
    .exact he.2.2
    .exact aY v bG
theorem nJ(hU:c5 u)(hF:cc u f){nl nk:Int}(ap:nk<=f.au.length):∀(ps:List bN),(∀p∈ps,cW (bC u) nl nk p)->
  ((bL u s f ps).2=0\/(bL u s f ps).2=1\/(bL u s f ps).2=2)/\((bL u s f ps).2=0->(bL u s f ps).1.length=ps.length)/\∀v∈(bL u s f ps).1,0<=v/\v<elems u.af
 | [],_=>⟨.inl rfl,λ_=>rfl,λv h=>by simp[bL] at h⟩
 | p::ps,h=>by
  obtain⟨ac,au,aY⟩:=nJ hU hF ap ps λx hx=>h x (by simp[hx]);have he:=jA (s:=s) hU hF ap (h p (by simp));unfold bL;split
  .rename_i bf;exact⟨he.1,λh=>absurd h bf,λv bG=>by simp at bG⟩
  .rename_i a;split
   .rename_i bf;exact⟨ac,λh=>absurd h bf,λv bG=>by simp at bG⟩
   .rename_i heq;refine⟨.inl rfl,λ_=>by simp[au ad],λv bG=>?_⟩;rcases LC.1 bG with rfl|bG
    .exact he.2 ad
    .exact aY v bG
theorem r0(hU:c5 u){ls:List Int}{sg:Int×Int}(h0:0<=k)(hs:(bC u).sig[k.toNat]?=some sg)(an:(is.length:Int)=sg.1)(hl:(ls.length:Int)=sg.2)
  (J:∀v∈is,Fits v) (ap:∀v∈ls,0<=v/\v<elems u.af):cc u (cY u k is ls):=by
 have a:(u.procs.map λp=>(p.ints,p.au))[k.toNat]?=some sg:=hs;rw[List.getElem?_map] at a
 cases hp:u.procs[k.toNat]? with
 | none=>rw[hp] at a;cases a
 | some p=>
  rw[hp] at a;injection a with a;subst a;simp only[] at an hl;have a1:=hU.procs p (Ln hp);obtain⟨c,hc,_⟩:=a1.code;have bK:eY u k=p.locals.toNat:=by unfold eY;rw[hp];rfl
  have ac:=a1.ints;refine⟨h0,Int.le_refl _,⟨p,hp,?_,?_,hl⟩,λv bG=>?_,ap⟩
  .show (0:Int)<(p.code.length:Int)
   rw[hc];simp
   try omega
  .show ((is++List.replicate (eY u k - is.length) 0).length:Int)=p.locals
   rw[bK];simp;omega
  .rcases Lt.1 bG with bG|bG
   .exact J v bG
   .rw[(List.mem_replicate.1 bG).2];exact iw
theorem F6(hF:cc u f){p:cM}(hp:u.procs[f.proc.toNat]?=some p)(h:f.pc+1<p.code.length):cc u (next f):=
 qg hF hp (aD hF.pc) h
theorem vj{l:List Int}{v:Int}(h:∀x∈l,Fits x)(bG:Fits v):∀x∈l.set i v,Fits x:=by
 intro x hx;rcases List.mem_or_eq_of_mem_set hx with hx|rfl
 .exact h x hx
 .exact bG
theorem x9{k:Nat}(ap:k<T.length):T[k]?=some (fb T k):=by
 unfold fb;rw[LI,List.getElem?_eq_getElem ap];rfl
theorem wM(hS:aX u D s)(h0:0<=e)(ht:0<=t/\t<s.threads.length)(cd:free u.af s.table e t=true):
  ∀i h,(s.table.set e.toNat ⟨t+1,(fb s.table e).depth+1⟩)[i]?=some h->j4 u s.threads.length (D+1) i h:=by
 intro i h an;rw[List.getElem?_set] at an;split at an
 .rename_i heq;subst heq;split at an
  .rename_i al;injection an with an;subst an;have a9:=x9 (T:=s.table) al;rw[show ((e.toNat:Nat):Int)=e by omega] at a9;have bn:=hS.holds _ _ a9;refine⟨⟨by show 0<=t+1;omega,by show t+1<=_;omega⟩,⟨by have:=bn.depth.1;show 0<=_+1;omega,by have:=bn.depth.2;show _+1<=((D+1:Nat):Int);omega⟩,?_,λh=>?_⟩
   .have:=bn.depth.1;show t+1=0↔(fb s.table e).depth+1=0
    omega
   .have F:1<(fb s.table e).depth+1:=h;rw[show ((e.toNat:Nat):Int)=e by omega];unfold free at cd;simp only[Lw,Bool.or_eq_true,beq_iff_eq,LR] at cd;rcases cd.2 with au|au
    .have:=bn.Ep.1 au;omega
    .exact au.2
  .cases an
 .exact(hS.holds i h an).mono (Lk _) ad
theorem tN(hS:aX u D s)(ah:heldBy u.af s.table e t=true):
  ∀i h,(s.table.set e.toNat (down (fb s.table e)))[i]?=some h->j4 u s.threads.length D i h:=by
 intro i h an;unfold heldBy at ah;simp only[Lw,beq_iff_eq,LR] at ah;rw[List.getElem?_set] at an;split at an
 .rename_i heq;subst heq;split at an
  .rename_i al;injection an with an;subst an;have h0:=(fU.1 ah.1.1).1;have a9:=x9 (T:=s.table) al;rw[show ((e.toNat:Nat):Int)=e by omega] at a9;have bn:=hS.holds _ _ a9;have hd:(fb s.table e).depth≠0:=λh=>by have:=bn.Ep.2 h;omega
   have:=bn.depth;have aB:=bn.owner;unfold down;refine⟨?_,⟨by show 0<=_ - 1;omega,by show _ - 1<=_;omega⟩,?_,λh=>bn.re (by have F:1<(fb s.table e).depth - 1:=h;omega)⟩
   .simp only[];split<;>omega
   .simp only[];split<;>omega
  .cases an
 .exact hS.holds i h an
theorem oM(a b:Int)(m:Bool)(bz:0<=a/\a<=4)(O:0<=b/\b<=4):0<=bX a b m/\bX a b m<=4:=by
 unfold bX
 repeat' split
 all_goals omega
theorem pW(a b:Int)(m:Bool)(h:bX a b m=0):a=0/\b=0/\m=false:=by
 unfold bX at h;by_cases bz:a=0
 .by_cases O:b=0
  .cases m
   .exact⟨bz,O,rfl⟩
   .simp[bz,O] at h
  .simp[bz,O] at h
 .simp[bz] at h
theorem iP(hU:c5 u)(hS:aX u D s):aX u (D+1) (aV u s t).1:=by
 unfold aV
 cases ht:de s t with
 | none=>exact hS.mono ad
 | some f=>
  obtain⟨hF,di,ck⟩:=hS.top ht;obtain⟨p,x,hp,a1,hx,len,hlen,an,bH⟩:=ql hU hF;have b:cU u s t=some x:=by unfold cU;rw[ht];simp[hp,hx]
  rw[b];simp only[];obtain⟨q,bA,_,cF,bM⟩:=hF.ex;have I:p=q:=by rw[hp] at bA;injection bA
  subst I;have U:aX u (D+1) s:=hS.mono ad;have hN:x.op≠8->cc u (next f):=λh=>F6 hF hp (bH h);unfold bI;rcases an with⟨ac,⟨e,he,bn⟩,au,aY,bR⟩|⟨ac,a9,sg,au,aY,bR,cI,a2,g⟩|⟨ac,a9,au⟩|⟨ac,a9,⟨e,he,bn⟩,au,aY⟩|⟨ac,a9,au,aY⟩|⟨ac,a9⟩
  ·
   have ar:=x7 hS hF hp bn;have a:=qb s.globals f.ints e;rw[if_pos (.inl ac),he];simp only[Option.getD_some];split
   .exact U.qd ad
   .rw[if_neg ad]
    cases ci:x.c7 with
    | true=>
     simp only[if_true];have:=gV U ht (hN ad)
     exact⟨this.xl,this.ft,by show (s.globals.set _ _).length=_;rw[List.length_set];exact hS.c7,vj hS.mN ar.2.2,this.table,this.holds,this.fault⟩
    | false=>
     simp only[LS,if_false];exact gV U ht (wy (hN ad) (List.length_set ..) (vj hF.fits ar.2.2))
  ·
   have hI:=qn hS hF hp x.ints a2;have bU:=nJ (s:=s) hU hF ad x.places g;rw[if_neg ad,if_pos ac];simp only[];by_cases bf:bX (cC s.globals f.ints x.ints).2 (bL u s f x.places).2 (decide (x.op=3/\32<=s.threads.length))≠0
   .rw[if_pos bf];exact U.qd (oM _ _ _ ad ad)
   .rw[if_neg bf];obtain⟨bz,O,hm⟩:=pW _ _ _ (Classical.not_not.1 bf);have cd:=r0 hU (k:=x.target) au aY (by rw[hI.2.1 bz];exact bR) (by rw[bU.2.1 O];exact cI) hI.2.2 bU.2.2;have hT:=gV U ht (hN ad);by_cases l:x.op=3
    .rw[if_pos l];have bp:s.threads.length<32:=by
      simp only[decide_eq_false_iff_not,not_and] at hm;have:=hm l;omega
     have hl:(aT s t (next f)).threads.length=s.threads.length:=List.length_modify ..;refine⟨?_,λy bb=>?_,hT.c7,hT.mN,hT.table,λi y bb=>?_,hT.fault⟩
     .simp only[Lm,Lv,hl];omega
     .rcases Lt.1 bb with bb|bb
      .exact hT.ft y bb
      .have:y=[cY u x.target (cC s.globals f.ints x.ints).1 (bL u s f x.places).1]:=by simpa using bb
       subst this;refine⟨by simp,λz bv=>?_⟩;have:z=cY u x.target (cC s.globals f.ints x.ints).1 (bL u s f x.places).1:=by simpa using bv
       subst this;exact cd
     .refine(hT.holds i y bb).mono ?_ (Lk _);simp only[Lm];omega
    .rw[if_neg l];exact EV (gV hS ht (hN ad)) cd
  ·
   have aw:=jA (s:=s) hU hF ad au;rw[if_neg ad,if_neg ad,if_pos ac];simp only[];split
   .refine U.qd ?_;rcases aw.1 with h|h|h<;>omega
   .rename_i heq;have ba:=aw.2 ad;have hT:=gV U ht (hN ad);have hl:(aT s t (next f)).threads.length=s.threads.length:=List.length_modify ..;split
    .split
     .rename_i cd;refine⟨hT.xl,hT.ft,hT.c7,hT.mN,by show (fm _ _ _ _).length=_;rw[ey];exact hS.table,λi y bb=>?_,hT.fault⟩;show j4 u (aT s t (next f)).threads.length (D+1) i y
      rw[hl];refine wM hS ba.1 ⟨di,ck⟩ cd i y ?_;have d:(fm u.af s.table (bo u s f x.place).1 t)[i]?=some y:=bb;unfold fm at d;rw[if_pos cd] at d;exact d
     .exact U
    .split
     .rename_i ah;refine⟨hT.xl,hT.ft,hT.c7,hT.mN,by show (cL _ _ _ _).length=_;rw[ei];exact hS.table,λi y bb=>?_,hT.fault⟩;show j4 u (aT s t (next f)).threads.length (D+1) i y
      rw[hl];refine(tN hS ah i y ?_).mono (Lk _) ad;have d:(cL u.af s.table (bo u s f x.place).1 t)[i]?=some y:=bb;unfold cL at d;rw[if_pos ah] at d;exact d
     .exact U.qd ad
  ·
   have a:=qb s.globals f.ints e;rw[if_pos (.inr ac),he];simp only[Option.getD_some];split
   .exact U.qd ad
   .try rw[if_pos ac]
    refine gV U ht ?_;split
    .exact qg hF hp au (by rw[hlen];omega)
    .exact hN ad
  .rw[if_neg ad,if_neg ad,if_neg ad,if_pos ac];exact gV U ht (qg hF hp au (by rw[hlen];omega))
  .rw[if_neg ad,if_neg ad,if_neg ad,if_neg ad];exact Gb U
theorem pg(hU:c5 u):aX u 0 (dG u):=by
 obtain⟨p,h0,hp,an,hl⟩:=hU.main;have J:cc u (cY u u.main [] []):=by
  refine r0 hU h0 (sg:=(0,0)) ?_ rfl rfl (λv bG=>by simp at bG) (λv bG=>by simp at bG);show (u.procs.map λp=>(p.ints,p.au))[u.main.toNat]?=_
  rw[List.getElem?_map,hp];simp[an,hl]
 refine⟨by show 1<=[[cY u u.main [] []]].length/\_;simp[dG],λt ht=>?_,rfl,λv bG=>?_,by simp[dG],λi h an=>?_,by simp[dG]⟩
 .have:t=[cY u u.main [] []]:=by simpa[dG] using ht
  subst this;refine⟨by simp,λx hx=>?_⟩;have:x=cY u u.main [] []:=by simpa using hx
  subst this;exact J
 .have:=hU.globals v bG;unfold Fits;omega
 .have r:(List.replicate (own u.af).length (⟨0,0⟩:bV))[i]?=some h:=an;rw[List.getElem?_replicate] at r;split at r
  .injection r with r;subst r;exact⟨⟨by simp,by simp⟩,⟨by simp,by simp⟩,by simp,λh=>by simp at h⟩
  .cases r
end
def Kp(l:List Int)(t:Int):Int:=if t<0 then -1 else l.getD t.toNat (-1)
def JP(l:List Int):Nat->Int->Int
 | 0,t=>t
 | k+1,t=>if t<0 then t else JP l k (Kp l t)
section
variable {l:List Int}
def zv(l:List Int)(t:Int):Prop:=∀k,0<=JP l k t
theorem zv.next{t:Int}(h:zv l t):zv l (Kp l t):=λk=>by
 have h0:=h 0;have:=h (k+1);rw[JP,if_neg (by exact Int.not_lt.2 h0)] at this;exact this
end
def oF(u:ay)(s:ai)(t:Int):Option (Int×Int):=
 match de s t,cU u s t with
 | some f,some x=>if x.op=4 then
   if (bo u s f x.place).2≠0 then none else if free u.af s.table (bo u s f x.place).1 t=true then none
   else some ((bo u s f x.place).1,(fb s.table (bo u s f x.place).1).owner - 1) else none
 | _,_=>none
def Jz(u:ay)(s:ai)(t:Int):Bool:=(cU u s t).isSome && (oF u s t).isNone
section
variable {u:ay} {D:Nat} {s:ai} {t:Int}
theorem uF(h:de s t=none):cU u s t=none:=by unfold cU;rw[h];rfl
theorem mw(h:oF u s t=some r):∃f x,de s t=some f/\cU u s t=some x/\x.op=4/\(bo u s f x.place).2=0/\free u.af s.table (bo u s f x.place).1 t=false/\
  r=((bo u s f x.place).1,(fb s.table (bo u s f x.place).1).owner - 1):=by
 unfold oF at h;split at h
 .rename_i f x J hx;split at h
  .rename_i cA;split at h
   .cases h
   .rename_i E;split at h
    .cases h
    .rename_i cd;injection h with h;exact⟨f,x,J,hx,cA,ad,by simpa using cd,h.symm⟩
  .cases h
 .cases h
theorem FM(hU:c5 u)(hS:aX u D s):Jz u s t=(aV u s t).2:=by
 unfold Jz oF aV
 cases J:de s t with
 | none=>rw[uF J];rfl
 | some f=>
  cases hx:cU u s t with
  | none=>rfl
  | some x=>
   simp only[Option.isSome_some,Bool.true_and];unfold bI;by_cases ac:x.op=1\/x.op=6
   .rw[if_pos ac,if_neg ad];simp only[]
    repeat' split
    all_goals rfl
   .rw[if_neg ac];by_cases au:x.op=2\/x.op=3
    .rw[if_pos au,if_neg ad];simp only[]
     repeat' split
     all_goals rfl
    .rw[if_neg au];by_cases bR:x.op=4
     .rw[if_pos bR,if_pos (Or.inl bR)];simp only[bR,if_true]
      repeat' split
      all_goals first|rfl|simp_all
     .rw[if_neg bR];simp only[]
      repeat' split
      all_goals first|rfl|omega
def j6:VE->Prop
 | .iF _=>False
 | .un _ x=>j6 x
 | .bin _ x y=>j6 x/\j6 y
 | _=>True
theorem k6(g ag l:List Int):∀x:VE,j6 x->ev g l x=ev ag l x
 | .num _,_=>rfl
 | .g7 _,_=>rfl
 | .loc _,_=>rfl
 | .iF _,h=>h.elim
 | .un op x,h=>by
  have ao:=k6 g ag l x h
  simp only[ev,ao]
 | .bin op x y,h=>by
  have i:=k6 g ag l x h.1;have c:=k6 g ag l y h.2;simp only[ev,i,c]
structure xI(u:ay)(s:ai)(t e o:Int):Prop where
 waits:oF u s t=some (e,o)
 o0:0<=o
 j6:∀x v,cU u s t=some x->x.place.at_=some v->j6 v
theorem wo{f:ak}{p:bN}(h:∀v,p.at_=some v->j6 v):bo u Q f p=bo u s f p:=by
 have an:cK u Q f p=cK u s f p:=by
  unfold cK
  cases hp:p.at_ with
  | none=>rfl
  | some v=>simp only[k6 Q.globals s.globals f.ints v (h v hp)]
 unfold bo;rw[an]
theorem xI.al(h:xI u s t e o)(ht:de Q t=de s t)(ah:fb Q.table e=fb s.table e):xI u Q t e o:=by
 obtain⟨f,x,J,hx,cA,E,cd,ba⟩:=mw h.waits;have g:cU u Q t=some x:=by
  unfold cU at hx ⊢;rw[ht];exact hx
 have he:=wo (u:=u) (s:=s) (Q:=Q) (f:=f) (p:=x.place) λv bG=>h.j6 x v hx bG;injection ba with ar bL;refine⟨?_,h.o0,λy v bb bG=>?_⟩
 .unfold oF;rw[ht,J,g];simp only[];rw[if_pos cA,he,if_neg ad];have a:free u.af Q.table (bo u s f x.place).1 t=false:=by
   rw[<-ar];rw[<-ar] at cd;unfold free at cd ⊢;rw[ah];exact cd
  rw[if_neg (by simp[a]),<-ar,ah,<-ar] at *;simp[bL]
 .rw[g] at bb;injection bb with bb;subst bb;exact h.j6 x v hx bG
theorem h8{l:List (List ak)}{j:Nat}{g:List ak->List ak}(h:i≠j):(l.modify i g)[j]?=l[j]?:=by
 rw[List.getElem?_modify]
 cases l[j]? with
 | none=>rfl
 | some y=>simp[h]
theorem vu{s:ai}(J:Q.fault=s.fault)(h:Q.threads[t.toNat]?=s.threads[t.toNat]?):de Q t=de s t:=by
 unfold de;rw[J,h]
theorem xe(hU:c5 u)(ht:0<=t/\t<s.threads.length)(hp:p≠t)(aD:s.fault=0)(J:(aV u s p).1.fault=0):de (aV u s p).1 t=de s t:=by
 refine vu (J.trans aD.symm) ?_;unfold aV at J ⊢
 cases bA:de s p with
 | none=>rfl
 | some f=>
  have m:0<=p:=(gy bA).2.1;have bf:p.toNat≠t.toNat:=ad
  cases hx:cU u s p with
  | none=>rfl
  | some x=>
   simp only[];unfold bI;simp only[]
   repeat' split
   all_goals simp only[aT,kM,qJ]
   all_goals first
    | rfl
    | exact h8 bf
    | (rw[h8 bf];exact h8 bf)
    | (rw[List.getElem?_append_left (by rw[List.length_modify];omega)];exact h8 bf)
theorem Ew(h0:0<=bx X e\/True)(he:0<=e)(bn:(fb T e).owner≠0)(hp:(fb T e).owner≠p+1):fb (fm X T F p) e=fb T e:=by
 unfold fm;split
 .rename_i cd;by_cases g:F=e
  .subst g;unfold free at cd;simp[bn,hp] at cd
  .have a:0<=F:=by
    unfold free at cd;simp only[Lw,LR] at cd;exact(fU.1 cd.1.1).1
   unfold fb;rw[List.getElem?_set_ne ad]
 .rfl
theorem xu(he:0<=e)(hp:(fb T e).owner≠p+1):fb (cL X T F p) e=fb T e:=by
 unfold cL;split
 .rename_i ah;by_cases g:F=e
  .subst g;unfold heldBy at ah;simp[hp] at ah
  .have a:0<=F:=by
    unfold heldBy at ah;simp only[Lw,LR] at ah;exact(fU.1 ah.1.1).1
   unfold fb;rw[List.getElem?_set_ne ad]
 .rfl
theorem xf(he:0<=e)(bn:(fb s.table e).owner≠0)(hp:(fb s.table e).owner≠p+1):fb (aV u s p).1.table e=fb s.table e:=by
 unfold aV
 cases bA:de s p with
 | none=>rfl
 | some f=>
  cases hx:cU u s p with
  | none=>rfl
  | some x=>
   simp only[];unfold bI;simp only[]
   repeat' split
   all_goals first
    | rfl
    | exact Ew (.inr trivial) he bn hp
    | exact xu he hp
theorem ka(h:(aV u s t).2=false):(aV u s t).1=s:=by
 unfold aV at h ⊢
 cases bA:de s t with
 | none=>rfl
 | some f=>
  cases hx:cU u s t with
  | none=>rfl
  | some x=>
   rw[bA,hx] at h;simp only[] at h ⊢;unfold bI at h ⊢;simp only[] at h ⊢
   repeat' split
   all_goals first
    | rfl
    | (exfalso;simp_all;done)
    | (exfalso;revert h;repeat' split;all_goals simp_all)
theorem vw(hU:c5 u)(hS:aX u D s)(h:oF u s t=some (e,o)):0<=e/\(fb s.table e).owner=o+1/\0<=t/\t<s.threads.length:=by
 obtain⟨f,x,J,hx,cA,E,cd,ba⟩:=mw h;injection ba with ar bL;have ht:=hS.top J;refine⟨?_,by rw[ar];omega,ht.2.1,ht.2.2⟩;obtain⟨p,y,hp,a1,bb,len,hlen,an,_⟩:=ql hU ht.1;have c:x=y:=by
  unfold cU at hx;rw[J] at hx;simp only[Option.bind_some,hp,bb,LP] at hx;exact hx.symm
 subst c;obtain⟨q,bA,_,_,ap⟩:=ht.1.ex;rw[hp] at bA;injection bA with bA;subst bA;have bp:cW (bC u) p.locals p.au x.place:=by
  rcases an with⟨ac,_⟩|⟨ac,_⟩|⟨ac,_,au⟩|⟨ac,_⟩|⟨ac,_⟩|⟨ac,_⟩
  .omega
  .omega
  .exact au
  .omega
  .omega
  .omega
 have:=(jA (s:=s) hU ht.1 ad bp).2 ad;rw[ar];exact this.1
theorem tP(h:oF u s t=some r):Jz u s t=false:=by unfold Jz;rw[h];simp
def pF(u:ay)(s:ai)(d:List Int):Prop:=∀t∈d,∃e o,xI u s t e o/\o∈d
theorem pF.step{d:List Int}(hU:c5 u)(hS:aX u D s)(h:pF u s d)(p:Int)(J:(aV u s p).1.fault=0):pF u (aV u s p).1 d:=by
 by_cases hp:p∈d
 .obtain⟨e,o,hs,_⟩:=h p hp;rw[ka (by rw[<-FM hU hS];exact tP hs.waits)];exact h
 .intro t ht;obtain⟨e,o,hs,bn⟩:=h t ht;obtain⟨f,x,az,_⟩:=mw hs.waits;obtain⟨ac,au,aY,bR⟩:=vw hU hS hs.waits;have dM:p≠t:=λe=>hp (by rw[e];exact ht);have cw:p≠o:=λe=>hp (by rw[e];exact bn);have h0:=hs.o0;exact⟨e,o,hs.al (xe hU ⟨aY,bR⟩ dM (gy az).1 J) (xf ac ad ad),bn⟩
end
end Go.Proofs.YtkhnkojkplbioaaGreat
