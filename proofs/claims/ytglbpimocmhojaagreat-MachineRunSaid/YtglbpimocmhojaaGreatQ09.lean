/- Part 9 of the proof. No condition of its own. -/
import Derived.Test.YtglbpimocmhojaaGreatQ08
namespace Go.Proofs.YtglbpimocmhojaaGreat
open Go.RowKit Go.Proofs.Tryz
set_option maxRecDepth 1000000
set_option maxHeartbeats 25600000
set_option linter.unusedVariables false
variable{e k p:Int}{r:Int×Int}{is:List Int}{X:List bG}{T:List cy}{i:Nat}{Q:aj}
def eg(s:aj)(t:Int):Option al:=if s.fault≠0\/t<0 then none else (s.threads[t.toNat]?).bind List.getLast?
def dW(u:ay)(s:aj)(t:Int):Option az:=(eg s t).bind λf=>(u.procs[f.proc.toNat]?).bind λp=>p.code[f.pc.toNat]?
def cQ(u:ay)(s:aj)(f:al)(p:bQ):Int×Int:=
 match p.at_ with
 | none=>(0,0)
 | some e=>idx (((u.af[p.index.toNat]?).map bG.size).getD 0) (ev s.globals f.ints e)
def bF(u:ay)(s:aj)(f:al)(p:bQ):Int×Int:=
 if p.param then (f.au.getD p.index.toNat 0,0)
 else if (cQ u s f p).2≠0 then (0,(cQ u s f p).2) else (eR u.af p.index+(cQ u s f p).1,0)
def xr(u:ay)(s:aj)(t:Int)(p:bQ):Int×Int:=match eg s t with
 | none=>(0,0)
 | some f=>bF u s f p
def cM(g l:List Int):List VE->List Int×Int
 | []=>([],0)
 | e::es=>if (ev g l e).2≠0 then ([],(ev g l e).2) else if (cM g l es).2≠0 then ([],(cM g l es).2) else ((ev g l e).1::(cM g l es).1,0)
def bZ(u:ay)(s:aj)(f:al):List bQ->List Int×Int
 | []=>([],0)
 | p::ps=>if (bF u s f p).2≠0 then ([],(bF u s f p).2) else if (bZ u s f ps).2≠0 then ([],(bZ u s f ps).2) else ((bF u s f p).1::(bZ u s f ps).1,0)
def eV(u:ay)(k:Int):Nat:=(((u.procs[k.toNat]?).map cH.locals).getD 0).toNat
def da(u:ay)(k:Int)(is ls:List Int):al:=⟨k,0,is++List.replicate (eV u k - is.length) 0,ls⟩
def dJ(u:ay):aj:=⟨u.globals,List.replicate (own u.af).length ⟨0,0⟩,[[da u u.main [] []]],0⟩
def bs(s:aj)(t:Int)(f:al):aj:={s with threads:=s.threads.modify t.toNat λfs=>fs.dropLast++[f]}
def qi(s:aj)(t:Int)(f:al):aj:={s with threads:=s.threads.modify t.toNat λfs=>fs++[f]}
def ua(s:aj)(t:Int):aj:={s with threads:=s.threads.modify t.toNat List.dropLast}
def next(f:al):al:={f with pc:=f.pc+1}
def ca(a b:Int)(many:Bool):Int:=if a≠0 then a else if b≠0 then b else if many then 4 else 0
def b2(u:ay)(s:aj)(t:Int)(f:al)(x:az):aj×Bool:=
 if x.op=1\/x.op=6 then
  let r:=ev s.globals f.ints (x.expr.getD (.num 0))
  if r.2≠0 then ({s with fault:=r.2},true)
  else if x.op=6 then (bs s t (if r.1=0 then {f with pc:=x.target} else next f),true)
  else if x.dg then ({bs s t (next f) with globals:=s.globals.set x.target.toNat r.1},true)
  else (bs s t {next f with ints:=f.ints.set x.target.toNat r.1},true)
 else if x.op=2\/x.op=3 then
  let a:=cM s.globals f.ints x.ints
  let b:=bZ u s f x.places
  let e:=ca a.2 b.2 (decide (x.op=3/\32<=s.threads.length))
  if e≠0 then ({s with fault:=e},true)
  else if x.op=3 then ({bs s t (next f) with threads:=(bs s t (next f)).threads++[[da u x.target a.1 b.1]]},true)
  else (qi (bs s t (next f)) t (da u x.target a.1 b.1),true)
 else if x.op=4\/x.op=5 then
  let r:=bF u s f x.place
  if r.2≠0 then ({s with fault:=r.2},true)
  else if x.op=4 then (if free u.af s.table r.1 t then ({bs s t (next f) with table:=fw u.af s.table r.1 t},true) else (s,false))
  else (if heldBy u.af s.table r.1 t then ({bs s t (next f) with table:=cV u.af s.table r.1 t},true) else ({s with fault:=3},true))
 else if x.op=7 then (bs s t {f with pc:=x.target},true)
 else (ua s t,true)
def b9(u:ay)(s:aj)(t:Int):aj×Bool:=match eg s t,dW u s t with
 | some f,some x=>b2 u s t f x
 | _,_=>(s,false)
theorem oH:∀x:VE,x.lit->x.fit
 | .num n,h=>by
  have F:0<=n/\n<=9223372036854775807:=h;show Fits n
  unfold Fits;omega
 | .g1 _,_=>trivial
 | .loc _,_=>trivial
 | .iB _,_=>trivial
 | .un _ x,h=>oH x h
 | .bin _ x y,h=>⟨oH x h.1,oH y h.2⟩
structure cc(u:ay)(f:al):Prop where
 proc:0<=f.proc
 pc:0<=f.pc
 ex:∃p,u.procs[f.proc.toNat]?=some p/\f.pc<p.code.length/\(f.ints.length:Int)=p.locals/\(f.au.length:Int)=p.au
 fits:∀v∈f.ints,Fits v
 au:∀k∈f.au,0<=k/\k<elems u.af
structure jY(u:ay)(n D:Nat)(i:Nat)(h:cy):Prop where
 owner:0<=h.owner/\h.owner<=n
 depth:0<=h.depth/\h.depth<=D
 DD:h.owner=0↔h.depth=0
 re:1<h.depth->wo u.af (bt u.af i)=true
structure aV(u:ay)(D:Nat)(s:aj):Prop where
 yO:1<=s.threads.length/\s.threads.length<=32
 fm:∀t∈s.threads,t.length<=D+1/\∀f∈t,cc u f
 dg:s.globals.length=u.globals.length
 mA:∀v∈s.globals,Fits v
 table:s.table.length=(own u.af).length
 holds:∀i h,s.table[i]?=some h->jY u s.threads.length D i h
 fault:0<=s.fault/\s.fault<=4
theorem jY.mono{u:ay}{n aP D o:Nat}{h:cy}(ag:jY u n D i h)(hn:n<=aP)(hD:D<=o):jY u aP o i h:=
 ⟨⟨ag.owner.1,by have:=ag.owner.2;omega⟩,⟨ag.depth.1,by have:=ag.depth.2;omega⟩,ag.DD,ag.re⟩
section
variable {u:ay} {D:Nat} {s:aj} {t:Int} {f:al}
theorem jI(h:eg s t=some f):s.fault=0/\0<=t/\∃fs,s.threads[t.toNat]?=some (fs++[f]):=by
 unfold eg at h;split at h
 .cases h
 .rename_i hc;refine⟨ad,ad,?_⟩
  cases bv:s.threads[t.toNat]? with
  | none=>rw[bv] at h;cases h
  | some l=>
   rw[bv] at h;have F:l.getLast?=some f:=h;obtain⟨cN,rfl⟩:=List.getLast?_eq_some_iff.1 F;exact⟨cN,rfl⟩
theorem aV.top(hS:aV u D s)(h:eg s t=some f):cc u f/\0<=t/\t<s.threads.length:=by
 obtain⟨_,h0,fs,bv⟩:=jI h;have ak:=(List.getElem?_eq_some_iff.1 bv).1;exact⟨(hS.fm _ (KG bv)).2 f (by simp),h0,ad⟩
theorem pP(hU:cZ u)(hF:cc u f):∃p x,u.procs[f.proc.toNat]?=some p/\qh (bx u) p/\p.code[f.pc.toNat]?=some x/\∃len:Nat,p.code.length=len+1/\h1 (bx u) p.locals p.au len x/\(x.op≠8->f.pc+1<p.code.length):=by
 obtain⟨p,hp,dc,_,_⟩:=hF.ex;have aZ:=hU.procs p (KG hp);obtain⟨c,hc,_,ap⟩:=aZ.code;have h0:=hF.pc;have hlen:p.code.length=c.length+1:=by rw[hc];simp
 have hx:p.code[f.pc.toNat]?=some (p.code[f.pc.toNat]'ad):=List.getElem?_eq_getElem _;refine⟨p,_,hp,aZ,hx,c.length,hlen,?_⟩;by_cases ak:f.pc.toNat<c.length
 .have he:p.code[f.pc.toNat]'ad=c[f.pc.toNat]:=by
   simp only[hc];exact List.getElem_append_left ak
  rw[he];exact⟨ap _ (List.getElem_mem _),λ_=>ad⟩
 .have he:p.code[f.pc.toNat]'ad=ni:=by
   simp only[hc];rw[List.getElem_append_right ad];simp
  rw[he];exact⟨.inr (.inr (.inr (.inr (.inr ⟨rfl,rfl⟩)))),λh=>absurd rfl h⟩
theorem xu(hS:aV u D s)(hF:cc u f){p:cH}(hp:u.procs[f.proc.toNat]?=some p){e:VE}(he:gf (bx u) p.locals e):
  e.ok s.globals.length f.ints.length/\nK s.globals f.ints e/\Fits (ev s.globals f.ints e).1:=by
 obtain⟨q,bv,_,hl,_⟩:=hF.ex;rw[hp] at bv;injection bv with bv;subst bv;have ac:e.ok s.globals.length f.ints.length:=by
  rw[hS.dg];have:=he.1;rw[show p.locals.toNat=f.ints.length by omega] at this;exact this
 have i:=oH e he.2;exact⟨ac,⟨hS.mA,hF.fits,i⟩,sF hS.mA hF.fits e i⟩
end
theorem cZ.yp{u:ay}(h:cZ u):m1 u.af:=⟨by have:=h.v8;omega,h.fx⟩
theorem C4(op a b:Int):(arith op a b).2=0\/(arith op a b).2=1:=by
 unfold arith
 repeat' split
 all_goals simp
theorem pG(g l:List Int):∀x:VE,(ev g l x).2=0\/(ev g l x).2=1
 | .num _=>.inl rfl
 | .g1 _=>.inl rfl
 | .loc _=>.inl rfl
 | .iB _=>.inl rfl
 | .un op x=>by
  have ao:=pG g l x;unfold ev
  repeat' split
  all_goals first|exact ao|exact .inl rfl
 | .bin op x y=>by
  have i:=pG g l x;have c:=pG g l y;unfold ev
  repeat' split
  all_goals first|exact i|exact c|exact .inl rfl|exact C4 _ _ _
theorem E8(m:Int)(r:Int×Int)(h:r.2=0\/r.2=1):(idx m r).2=0\/(idx m r).2=1\/(idx m r).2=2:=by
 unfold idx
 repeat' split
 all_goals simp
 all_goals omega
theorem Hj(m:Int)(r:Int×Int)(h:(idx m r).2=0):0<=(idx m r).1/\(idx m r).1<m:=by
 unfold idx at h ⊢;split at h
 .rename_i ac;exact absurd h ac
 .split at h
  .simp at h
  .rename_i ac au;rw[if_neg ac,if_neg au];simp only[];omega
section
variable {u:ay} {D o:Nat} {s:aj} {t:Int} {f a6:al}
theorem jt(hU:cZ u)(hF:cc u f){p:bQ}{nl nk:Int}(ap:nk<=f.au.length)(hp:cU (bx u) nl nk p):
  ((bF u s f p).2=0\/(bF u s f p).2=1\/(bF u s f p).2=2)/\((bF u s f p).2=0->0<=(bF u s f p).1/\(bF u s f p).1<elems u.af):=by
 unfold bF;rcases hp with⟨ac,au,aU,bE⟩|⟨ac,m,au,aU,bE,cF⟩
 .rw[if_pos ac];refine⟨.inl rfl,λ_=>?_⟩;have ak:p.index.toNat<f.au.length:=ad;have:f.au.getD p.index.toNat 0=f.au[p.index.toNat]:=by rw[List.getD_eq_getElem?_getD,List.getElem?_eq_getElem ak];rfl
  simp only[this];exact hF.au _ (List.getElem_mem _)
 .rw[if_neg (by simp[ac])];have hm:u.af[p.index.toNat]?=some m:=aU;have bZ:=hU.fx m (KG hm);obtain⟨i,an⟩:=KI au;rw[an,KY] at hm;have ak:=(List.getElem?_eq_some_iff.1 hm).1;have O:eR u.af p.index=elems (u.af.take i):=by rw[an];exact m8 ak
  have h0:=(hU.yp).ml i;have K:elems (u.af.take i)+m.num<=elems u.af:=by
   have:=qS u.af (i+1);rw[List.take_add_one,hm] at this;simp only[Option.toList_some,ix] at this;exact this
  have y:=m.oK;have a:((cQ u s f p).2=0\/(cQ u s f p).2=1\/(cQ u s f p).2=2)/\((cQ u s f p).2=0->0<=(cQ u s f p).1/\(cQ u s f p).1<m.num):=by
   unfold cQ;by_cases bt:0<m.size
   .obtain⟨e,he,_⟩:=bE bt;have F:((u.af[p.index.toNat]?).map bG.size).getD 0=m.size:=by rw[an,KY,hm];rfl
    rw[he];simp only[F];refine⟨E8 _ _ (pG _ _ _),λh=>?_⟩;have:=Hj _ _ h;unfold bG.num;omega
   .rw[cF bt];refine⟨.inl rfl,λ_=>⟨Int.le_refl _,?_⟩⟩;simp only[];omega
  split
  .rename_i be;exact⟨a.1,λh=>absurd h be⟩
  .rename_i heq;refine⟨.inl rfl,λ_=>?_⟩;have:=a.2 ad;simp only[O];omega
theorem pV{α:Type}{l:List α}{g:α->α}{x:α}(h:x∈l.modify i g):x∈l\/∃y,l[i]?=some y/\x=g y:=by
 obtain⟨k,ap⟩:=List.getElem?_of_mem h;rw[List.getElem?_modify] at ap;split at ap
 .rename_i heq;subst heq
  cases bb:l[i]? with
  | none=>rw[bb] at ap;cases ap
  | some y=>
   rw[bb] at ap;exact .inr ⟨y,rfl,by simpa using ap.symm⟩
 .exact .inl (KG (by simpa using ap))
theorem aV.mono(h:aV u D s)(hD:D<=o):aV u o s:=
 ⟨h.yO,λt ht=>⟨by have:=(h.fm t ht).1;omega,(h.fm t ht).2⟩,h.dg,h.mA,h.table,λi x hx=>(h.holds i x hx).mono (KD _) hD,h.fault⟩
theorem aV.pH(h:aV u D s)(he:0<=e/\e<=4):aV u D {s with fault:=e}:=
 ⟨h.yO,h.fm,h.dg,h.mA,h.table,h.holds,he⟩
theorem aV.threads(h:aV u D s)(g:List al->List al)(a2:∀fs,s.threads[t.toNat]?=some fs->(g fs).length<=o+1/\∀f∈g fs,cc u f)(hD:D<=o) :
  aV u o {s with threads:=s.threads.modify t.toNat g}:=by
 have hl:(s.threads.modify t.toNat g).length=s.threads.length:=List.length_modify ..;refine⟨by show 1<=(s.threads.modify t.toNat g).length/\_<=32;rw[hl];exact h.yO,λx hx=>?_,h.dg,h.mA,h.table,λi x hx=>?_,h.fault⟩
 .rcases pV hx with hx|⟨y,bb,rfl⟩
  .exact⟨by have:=(h.fm x hx).1;omega,(h.fm x hx).2⟩
  .exact a2 y bb
 .show jY u (s.threads.modify t.toNat g).length o i x
  rw[hl];exact(h.holds i x hx).mono (KD _) hD
theorem gQ(h:aV u D s)(ht:eg s t=some f)(J:cc u a6):aV u D (bs s t a6):=by
 obtain⟨_,_,fs,bv⟩:=jI ht;refine h.threads _ (λgs co=>?_) (KD _);rw[bv] at co;injection co with co;subst co;have:=h.fm _ (KG bv);simp only[List.dropLast_concat,KF,KO] at this ⊢;refine⟨this.1,λx hx=>?_⟩;rcases KM.1 hx with hx|hx
 .exact this.2 x (by simp[hx])
 .have:x=a6:=by simpa using hx
  subst this;exact J
theorem Fl(h:aV u D s):aV u D (ua s t):=by
 refine h.threads _ (λgs co=>?_) (KD _);have:=h.fm _ (KG co);refine⟨by rw[List.length_dropLast];omega,λx hx=>this.2 x (List.mem_of_mem_take (by rw[List.dropLast_eq_take] at hx;exact hx))⟩
theorem D6(h:aV u D s)(J:cc u a6):aV u (D+1) (qi s t a6):=by
 refine h.threads _ (λgs co=>?_) ad;have:=h.fm _ (KG co);refine⟨by simp;omega,λx hx=>?_⟩;rcases KM.1 hx with hx|hx
 .exact this.2 x hx
 .have:x=a6:=by simpa using hx
  subst this;exact J
theorem pK(hF:cc u f){p:cH}(hp:u.procs[f.proc.toNat]?=some p)(h0:0<=k)(ac:k<p.code.length):cc u {f with pc:=k}:=by
 obtain⟨q,bv,_,au,aU⟩:=hF.ex;rw[hp] at bv;injection bv with bv;subst bv;exact⟨hF.proc,h0,⟨_,hp,ac,au,aU⟩,hF.fits,hF.au⟩
theorem vI(hF:cc u f)(hl:is.length=f.ints.length)(J:∀v∈is,Fits v):cc u {f with ints:=is}:=by
 obtain⟨q,bv,ac,au,aU⟩:=hF.ex;exact⟨hF.proc,hF.pc,⟨q,bv,ac,by show (is.length:Int)=_;rw[hl];exact au,aU⟩,J,hF.au⟩
theorem pQ(hS:aV u D s)(hF:cc u f){p:cH}(hp:u.procs[f.proc.toNat]?=some p):∀(es:List VE),(∀e∈es,gf (bx u) p.locals e)->
  ((cM s.globals f.ints es).2=0\/(cM s.globals f.ints es).2=1)/\((cM s.globals f.ints es).2=0->(cM s.globals f.ints es).1.length=es.length)/\∀v∈(cM s.globals f.ints es).1,Fits v
 | [],_=>⟨.inl rfl,λ_=>rfl,λv h=>by simp[cM] at h⟩
 | e::es,h=>by
  obtain⟨ac,au,aU⟩:=pQ hS hF hp es λx hx=>h x (by simp[hx]);have he:=xu hS hF hp (h e (by simp));have a:=pG s.globals f.ints e;unfold cM;split
  .rename_i be;exact⟨a,λh=>absurd h be,λv bI=>by simp at bI⟩
  .split
   .rename_i be;exact⟨ac,λh=>absurd h be,λv bI=>by simp at bI⟩
   .rename_i heq;refine⟨.inl rfl,λ_=>by simp[au ad],λv bI=>?_⟩;rcases KT.1 bI with rfl|bI
    .exact he.2.2
    .exact aU v bI
theorem nr(hU:cZ u)(hF:cc u f){nl nk:Int}(ap:nk<=f.au.length):∀(ps:List bQ),(∀p∈ps,cU (bx u) nl nk p)->
  ((bZ u s f ps).2=0\/(bZ u s f ps).2=1\/(bZ u s f ps).2=2)/\((bZ u s f ps).2=0->(bZ u s f ps).1.length=ps.length)/\∀v∈(bZ u s f ps).1,0<=v/\v<elems u.af
 | [],_=>⟨.inl rfl,λ_=>rfl,λv h=>by simp[bZ] at h⟩
 | p::ps,h=>by
  obtain⟨ac,au,aU⟩:=nr hU hF ap ps λx hx=>h x (by simp[hx]);have he:=jt (s:=s) hU hF ap (h p (by simp));unfold bZ;split
  .rename_i be;exact⟨he.1,λh=>absurd h be,λv bI=>by simp at bI⟩
  .rename_i a;split
   .rename_i be;exact⟨ac,λh=>absurd h be,λv bI=>by simp at bI⟩
   .rename_i heq;refine⟨.inl rfl,λ_=>by simp[au ad],λv bI=>?_⟩;rcases KT.1 bI with rfl|bI
    .exact he.2 ad
    .exact aU v bI
theorem ru(hU:cZ u){ls:List Int}{sg:Int×Int}(h0:0<=k)(hs:(bx u).sig[k.toNat]?=some sg)(an:(is.length:Int)=sg.1)(hl:(ls.length:Int)=sg.2)
  (J:∀v∈is,Fits v) (ap:∀v∈ls,0<=v/\v<elems u.af):cc u (da u k is ls):=by
 have a:(u.procs.map λp=>(p.ints,p.au))[k.toNat]?=some sg:=hs;rw[List.getElem?_map] at a
 cases hp:u.procs[k.toNat]? with
 | none=>rw[hp] at a;cases a
 | some p=>
  rw[hp] at a;injection a with a;subst a;simp only[] at an hl;have aZ:=hU.procs p (KG hp);obtain⟨c,hc,_⟩:=aZ.code;have bE:eV u k=p.locals.toNat:=by unfold eV;rw[hp];rfl
  have ac:=aZ.ints;refine⟨h0,Int.le_refl _,⟨p,hp,?_,?_,hl⟩,λv bI=>?_,ap⟩
  .show (0:Int)<(p.code.length:Int)
   rw[hc];simp
   try omega
  .show ((is++List.replicate (eV u k - is.length) 0).length:Int)=p.locals
   rw[bE];simp;omega
  .rcases KM.1 bI with bI|bI
   .exact J v bI
   .rw[(List.mem_replicate.1 bI).2];exact ik
theorem Ff(hF:cc u f){p:cH}(hp:u.procs[f.proc.toNat]?=some p)(h:f.pc+1<p.code.length):cc u (next f):=
 pK hF hp (aC hF.pc) h
theorem ux{l:List Int}{v:Int}(h:∀x∈l,Fits x)(bI:Fits v):∀x∈l.set i v,Fits x:=by
 intro x hx;rcases List.mem_or_eq_of_mem_set hx with hx|rfl
 .exact h x hx
 .exact bI
theorem xw{k:Nat}(ap:k<T.length):T[k]?=some (jW T k):=by
 unfold jW;rw[KY,List.getElem?_eq_getElem ap];rfl
theorem vV(hS:aV u D s)(h0:0<=e)(ht:0<=t/\t<s.threads.length)(cb:free u.af s.table e t=true):
  ∀i h,(s.table.set e.toNat ⟨t+1,(jW s.table e).depth+1⟩)[i]?=some h->jY u s.threads.length (D+1) i h:=by
 intro i h an;rw[List.getElem?_set] at an;split at an
 .rename_i heq;subst heq;split at an
  .rename_i ak;injection an with an;subst an;have a2:=xw (T:=s.table) ak;rw[show ((e.toNat:Nat):Int)=e by omega] at a2;have bn:=hS.holds _ _ a2;refine⟨⟨by show 0<=t+1;omega,by show t+1<=_;omega⟩,⟨by have:=bn.depth.1;show 0<=_+1;omega,by have:=bn.depth.2;show _+1<=((D+1:Nat):Int);omega⟩,?_,λh=>?_⟩
   .have:=bn.depth.1;show t+1=0↔(jW s.table e).depth+1=0
    omega
   .have F:1<(jW s.table e).depth+1:=h;rw[show ((e.toNat:Nat):Int)=e by omega];unfold free at cb;simp only[KP,Bool.or_eq_true,beq_iff_eq,Li] at cb;rcases cb.2 with au|au
    .have:=bn.DD.1 au;omega
    .exact au.2
  .cases an
 .exact(hS.holds i h an).mono (KD _) ad
theorem s7(hS:aV u D s)(ag:heldBy u.af s.table e t=true):
  ∀i h,(s.table.set e.toNat (down (jW s.table e)))[i]?=some h->jY u s.threads.length D i h:=by
 intro i h an;unfold heldBy at ag;simp only[KP,beq_iff_eq,Li] at ag;rw[List.getElem?_set] at an;split at an
 .rename_i heq;subst heq;split at an
  .rename_i ak;injection an with an;subst an;have h0:=(fR.1 ag.1.1).1;have a2:=xw (T:=s.table) ak;rw[show ((e.toNat:Nat):Int)=e by omega] at a2;have bn:=hS.holds _ _ a2;have hd:(jW s.table e).depth≠0:=λh=>by have:=bn.DD.2 h;omega
   have:=bn.depth;have aB:=bn.owner;unfold down;refine⟨?_,⟨by show 0<=_ - 1;omega,by show _ - 1<=_;omega⟩,?_,λh=>bn.re (by have F:1<(jW s.table e).depth - 1:=h;omega)⟩
   .simp only[];split<;>omega
   .simp only[];split<;>omega
  .cases an
 .exact hS.holds i h an
theorem oi(a b:Int)(m:Bool)(bx:0<=a/\a<=4)(O:0<=b/\b<=4):0<=ca a b m/\ca a b m<=4:=by
 unfold ca
 repeat' split
 all_goals omega
theorem py(a b:Int)(m:Bool)(h:ca a b m=0):a=0/\b=0/\m=false:=by
 unfold ca at h;by_cases bx:a=0
 .by_cases O:b=0
  .cases m
   .exact⟨bx,O,rfl⟩
   .simp[bx,O] at h
  .simp[bx,O] at h
 .simp[bx] at h
theorem uD(hU:cZ u)(hS:aV u D s):aV u (D+1) (b9 u s t).1:=by
 unfold b9
 cases ht:eg s t with
 | none=>exact hS.mono ad
 | some f=>
  obtain⟨hF,db,co⟩:=hS.top ht;obtain⟨p,x,hp,aZ,hx,len,hlen,an,ci⟩:=pP hU hF;have b:dW u s t=some x:=by unfold dW;rw[ht];simp[hp,hx]
  rw[b];simp only[];obtain⟨q,bv,_,cg,bI⟩:=hF.ex;have P:p=q:=by rw[hp] at bv;injection bv
  subst P;have U:aV u (D+1) s:=hS.mono ad;have hN:x.op≠8->cc u (next f):=λh=>Ff hF hp (ci h);unfold b2;rcases an with⟨ac,⟨e,he,bn⟩,au,aU,bE⟩|⟨ac,a2,sg,au,aU,bE,cF,aY,j⟩|⟨ac,a2,au⟩|⟨ac,a2,⟨e,he,bn⟩,au,aU⟩|⟨ac,a2,au,aU⟩|⟨ac,a2⟩
  ·
   have ar:=xu hS hF hp bn;have a:=pG s.globals f.ints e;rw[if_pos (.inl ac),he];simp only[Option.getD_some];split
   .exact U.pH ad
   .rw[if_neg ad]
    cases ck:x.dg with
    | true=>
     simp only[if_true];have:=gQ U ht (hN ad)
     exact⟨this.yO,this.fm,by show (s.globals.set _ _).length=_;rw[List.length_set];exact hS.dg,ux hS.mA ar.2.2,this.table,this.holds,this.fault⟩
    | false=>
     simp only[Lj,if_false];exact gQ U ht (vI (hN ad) (List.length_set ..) (ux hF.fits ar.2.2))
  ·
   have hI:=pQ hS hF hp x.ints aY;have bR:=nr (s:=s) hU hF ad x.places j;rw[if_neg ad,if_pos ac];simp only[];by_cases be:ca (cM s.globals f.ints x.ints).2 (bZ u s f x.places).2 (decide (x.op=3/\32<=s.threads.length))≠0
   .rw[if_pos be];exact U.pH (oi _ _ _ ad ad)
   .rw[if_neg be];obtain⟨bx,O,hm⟩:=py _ _ _ (Classical.not_not.1 be);have cb:=ru hU (k:=x.target) au aU (by rw[hI.2.1 bx];exact bE) (by rw[bR.2.1 O];exact cF) hI.2.2 bR.2.2;have hT:=gQ U ht (hN ad);by_cases l:x.op=3
    .rw[if_pos l];have bg:s.threads.length<32:=by
      simp only[decide_eq_false_iff_not,not_and] at hm;have:=hm l;omega
     have hl:(bs s t (next f)).threads.length=s.threads.length:=List.length_modify ..;refine⟨?_,λy bb=>?_,hT.dg,hT.mA,hT.table,λi y bb=>?_,hT.fault⟩
     .simp only[KF,KO,hl];omega
     .rcases KM.1 bb with bb|bb
      .exact hT.fm y bb
      .have:y=[da u x.target (cM s.globals f.ints x.ints).1 (bZ u s f x.places).1]:=by simpa using bb
       subst this;refine⟨by simp,λz bt=>?_⟩;have:z=da u x.target (cM s.globals f.ints x.ints).1 (bZ u s f x.places).1:=by simpa using bt
       subst this;exact cb
     .refine(hT.holds i y bb).mono ?_ (KD _);simp only[KF];omega
    .rw[if_neg l];exact D6 (gQ hS ht (hN ad)) cb
  ·
   have aw:=jt (s:=s) hU hF ad au;rw[if_neg ad,if_neg ad,if_pos ac];simp only[];split
   .refine U.pH ?_;rcases aw.1 with h|h|h<;>omega
   .rename_i heq;have a5:=aw.2 ad;have hT:=gQ U ht (hN ad);have hl:(bs s t (next f)).threads.length=s.threads.length:=List.length_modify ..;split
    .split
     .rename_i cb;refine⟨hT.yO,hT.fm,hT.dg,hT.mA,by show (fw _ _ _ _).length=_;rw[fa];exact hS.table,λi y bb=>?_,hT.fault⟩;show jY u (bs s t (next f)).threads.length (D+1) i y
      rw[hl];refine vV hS a5.1 ⟨db,co⟩ cb i y ?_;have d:(fw u.af s.table (bF u s f x.place).1 t)[i]?=some y:=bb;unfold fw at d;rw[if_pos cb] at d;exact d
     .exact U
    .split
     .rename_i ag;refine⟨hT.yO,hT.fm,hT.dg,hT.mA,by show (cV _ _ _ _).length=_;rw[eZ];exact hS.table,λi y bb=>?_,hT.fault⟩;show jY u (bs s t (next f)).threads.length (D+1) i y
      rw[hl];refine(s7 hS ag i y ?_).mono (KD _) ad;have d:(cV u.af s.table (bF u s f x.place).1 t)[i]?=some y:=bb;unfold cV at d;rw[if_pos ag] at d;exact d
     .exact U.pH ad
  ·
   have a:=pG s.globals f.ints e;rw[if_pos (.inr ac),he];simp only[Option.getD_some];split
   .exact U.pH ad
   .try rw[if_pos ac]
    refine gQ U ht ?_;split
    .exact pK hF hp au (by rw[hlen];omega)
    .exact hN ad
  .rw[if_neg ad,if_neg ad,if_neg ad,if_pos ac];exact gQ U ht (pK hF hp au (by rw[hlen];omega))
  .rw[if_neg ad,if_neg ad,if_neg ad,if_neg ad];exact Fl U
theorem oI(hU:cZ u):aV u 0 (dJ u):=by
 obtain⟨p,h0,hp,an,hl⟩:=hU.main;have J:cc u (da u u.main [] []):=by
  refine ru hU h0 (sg:=(0,0)) ?_ rfl rfl (λv bI=>by simp at bI) (λv bI=>by simp at bI);show (u.procs.map λp=>(p.ints,p.au))[u.main.toNat]?=_
  rw[List.getElem?_map,hp];simp[an,hl]
 refine⟨by show 1<=[[da u u.main [] []]].length/\_;simp[dJ],λt ht=>?_,rfl,λv bI=>?_,by simp[dJ],λi h an=>?_,by simp[dJ]⟩
 .have:t=[da u u.main [] []]:=by simpa[dJ] using ht
  subst this;refine⟨by simp,λx hx=>?_⟩;have:x=da u u.main [] []:=by simpa using hx
  subst this;exact J
 .have:=hU.globals v bI;unfold Fits;omega
 .have r:(List.replicate (own u.af).length (⟨0,0⟩:cy))[i]?=some h:=an;rw[List.getElem?_replicate] at r;split at r
  .injection r with r;subst r;exact⟨⟨by simp,by simp⟩,⟨by simp,by simp⟩,by simp,λh=>by simp at h⟩
  .cases r
end
def JI(l:List Int)(t:Int):Int:=if t<0 then -1 else l.getD t.toNat (-1)
def I8(l:List Int):Nat->Int->Int
 | 0,t=>t
 | k+1,t=>if t<0 then t else I8 l k (JI l t)
section
variable {l:List Int}
def yP(l:List Int)(t:Int):Prop:=∀k,0<=I8 l k t
theorem yP.next{t:Int}(h:yP l t):yP l (JI l t):=λk=>by
 have h0:=h 0;have:=h (k+1);rw[I8,if_neg (by exact Int.not_lt.2 h0)] at this;exact this
end
def oa(u:ay)(s:aj)(t:Int):Option (Int×Int):=
 match eg s t,dW u s t with
 | some f,some x=>if x.op=4 then
   if (bF u s f x.place).2≠0 then none else if free u.af s.table (bF u s f x.place).1 t=true then none
   else some ((bF u s f x.place).1,(jW s.table (bF u s f x.place).1).owner - 1) else none
 | _,_=>none
def IN(u:ay)(s:aj)(t:Int):Bool:=(dW u s t).isSome && (oa u s t).isNone
section
variable {u:ay} {D:Nat} {s:aj} {t:Int}
theorem tL(h:eg s t=none):dW u s t=none:=by unfold dW;rw[h];rfl
theorem ma(h:oa u s t=some r):∃f x,eg s t=some f/\dW u s t=some x/\x.op=4/\(bF u s f x.place).2=0/\free u.af s.table (bF u s f x.place).1 t=false/\
  r=((bF u s f x.place).1,(jW s.table (bF u s f x.place).1).owner - 1):=by
 unfold oa at h;split at h
 .rename_i f x J hx;split at h
  .rename_i cx;split at h
   .cases h
   .rename_i E;split at h
    .cases h
    .rename_i cb;injection h with h;exact⟨f,x,J,hx,cx,ad,by simpa using cb,h.symm⟩
  .cases h
 .cases h
theorem EX(hU:cZ u)(hS:aV u D s):IN u s t=(b9 u s t).2:=by
 unfold IN oa b9
 cases J:eg s t with
 | none=>rw[tL J];rfl
 | some f=>
  cases hx:dW u s t with
  | none=>rfl
  | some x=>
   simp only[Option.isSome_some,Bool.true_and];unfold b2;by_cases ac:x.op=1\/x.op=6
   .rw[if_pos ac,if_neg ad];simp only[]
    repeat' split
    all_goals rfl
   .rw[if_neg ac];by_cases au:x.op=2\/x.op=3
    .rw[if_pos au,if_neg ad];simp only[]
     repeat' split
     all_goals rfl
    .rw[if_neg au];by_cases bE:x.op=4
     .rw[if_pos bE,if_pos (Or.inl bE)];simp only[bE,if_true]
      repeat' split
      all_goals first|rfl|simp_all
     .rw[if_neg bE];simp only[]
      repeat' split
      all_goals first|rfl|omega
def j0:VE->Prop
 | .iB _=>False
 | .un _ x=>j0 x
 | .bin _ x y=>j0 x/\j0 y
 | _=>True
theorem kU(g ah l:List Int):∀x:VE,j0 x->ev g l x=ev ah l x
 | .num _,_=>rfl
 | .g1 _,_=>rfl
 | .loc _,_=>rfl
 | .iB _,h=>h.elim
 | .un op x,h=>by
  have ao:=kU g ah l x h
  simp only[ev,ao]
 | .bin op x y,h=>by
  have i:=kU g ah l x h.1;have c:=kU g ah l y h.2;simp only[ev,i,c]
structure w4(u:ay)(s:aj)(t e o:Int):Prop where
 waits:oa u s t=some (e,o)
 o0:0<=o
 j0:∀x v,dW u s t=some x->x.place.at_=some v->j0 v
theorem vD{f:al}{p:bQ}(h:∀v,p.at_=some v->j0 v):bF u Q f p=bF u s f p:=by
 have an:cQ u Q f p=cQ u s f p:=by
  unfold cQ
  cases hp:p.at_ with
  | none=>rfl
  | some v=>simp only[kU Q.globals s.globals f.ints v (h v hp)]
 unfold bF;rw[an]
theorem w4.ak{o:Int}(h:w4 u s t e o)(ht:eg Q t=eg s t)(ag:jW Q.table e=jW s.table e):w4 u Q t e o:=by
 obtain⟨f,x,J,hx,cx,E,cb,a5⟩:=ma h.waits;have g:dW u Q t=some x:=by
  unfold dW at hx ⊢;rw[ht];exact hx
 have he:=vD (u:=u) (s:=s) (Q:=Q) (f:=f) (p:=x.place) λv bI=>h.j0 x v hx bI;injection a5 with ar bw;refine⟨?_,h.o0,λy v bb bI=>?_⟩
 .unfold oa;rw[ht,J,g];simp only[];rw[if_pos cx,he,if_neg ad];have a:free u.af Q.table (bF u s f x.place).1 t=false:=by
   rw[<-ar];rw[<-ar] at cb;unfold free at cb ⊢;rw[ag];exact cb
  rw[if_neg (by simp[a]),<-ar,ag,<-ar] at *;simp[bw]
 .rw[g] at bb;injection bb with bb;subst bb;exact h.j0 x v hx bI
theorem h2{l:List (List al)}{j:Nat}{g:List al->List al}(h:i≠j):(l.modify i g)[j]?=l[j]?:=by
 rw[List.getElem?_modify]
 cases l[j]? with
 | none=>rfl
 | some y=>simp[h]
theorem uI{s:aj}(J:Q.fault=s.fault)(h:Q.threads[t.toNat]?=s.threads[t.toNat]?):eg Q t=eg s t:=by
 unfold eg;rw[J,h]
theorem wC(hU:cZ u)(ht:0<=t/\t<s.threads.length)(hp:p≠t)(aC:s.fault=0)(J:(b9 u s p).1.fault=0):eg (b9 u s p).1 t=eg s t:=by
 refine uI (J.trans aC.symm) ?_;unfold b9 at J ⊢
 cases bv:eg s p with
 | none=>rfl
 | some f=>
  have m:0<=p:=(jI bv).2.1;have be:p.toNat≠t.toNat:=ad
  cases hx:dW u s p with
  | none=>rfl
  | some x=>
   simp only[];unfold b2;simp only[]
   repeat' split
   all_goals simp only[bs,qi,ua]
   all_goals first
    | rfl
    | exact h2 be
    | (rw[h2 be];exact h2 be)
    | (rw[List.getElem?_append_left (by rw[List.length_modify];omega)];exact h2 be)
theorem DK{l:Int}(h0:0<=bt X e\/True)(he:0<=e)(bn:(jW T e).owner≠0)(hp:(jW T e).owner≠p+1):jW (fw X T l p) e=jW T e:=by
 unfold fw;split
 .rename_i cb;by_cases g:l=e
  .subst g;unfold free at cb;simp[bn,hp] at cb
  .have a:0<=l:=by
    unfold free at cb;simp only[KP,Li] at cb;exact(fR.1 cb.1.1).1
   unfold jW;rw[List.getElem?_set_ne ad]
 .rfl
theorem wQ{l:Int}(he:0<=e)(hp:(jW T e).owner≠p+1):jW (cV X T l p) e=jW T e:=by
 unfold cV;split
 .rename_i ag;by_cases g:l=e
  .subst g;unfold heldBy at ag;simp[hp] at ag
  .have a:0<=l:=by
    unfold heldBy at ag;simp only[KP,Li] at ag;exact(fR.1 ag.1.1).1
   unfold jW;rw[List.getElem?_set_ne ad]
 .rfl
theorem wD(he:0<=e)(bn:(jW s.table e).owner≠0)(hp:(jW s.table e).owner≠p+1):jW (b9 u s p).1.table e=jW s.table e:=by
 unfold b9
 cases bv:eg s p with
 | none=>rfl
 | some f=>
  cases hx:dW u s p with
  | none=>rfl
  | some x=>
   simp only[];unfold b2;simp only[]
   repeat' split
   all_goals first
    | rfl
    | exact DK (.inr trivial) he bn hp
    | exact wQ he hp
theorem j4(h:(b9 u s t).2=false):(b9 u s t).1=s:=by
 unfold b9 at h ⊢
 cases bv:eg s t with
 | none=>rfl
 | some f=>
  cases hx:dW u s t with
  | none=>rfl
  | some x=>
   rw[bv,hx] at h;simp only[] at h ⊢;unfold b2 at h ⊢;simp only[] at h ⊢
   repeat' split
   all_goals first
    | rfl
    | (exfalso;simp_all;done)
    | (exfalso;revert h;repeat' split;all_goals simp_all)
theorem uL{o:Int}(hU:cZ u)(hS:aV u D s)(h:oa u s t=some (e,o)):0<=e/\(jW s.table e).owner=o+1/\0<=t/\t<s.threads.length:=by
 obtain⟨f,x,J,hx,cx,E,cb,a5⟩:=ma h;injection a5 with ar bw;have ht:=hS.top J;refine⟨?_,by rw[ar];omega,ht.2.1,ht.2.2⟩;obtain⟨p,y,hp,aZ,bb,len,hlen,an,_⟩:=pP hU ht.1;have c:x=y:=by
  unfold dW at hx;rw[J] at hx;simp only[Option.bind_some,hp,bb,Lg] at hx;exact hx.symm
 subst c;obtain⟨q,bv,_,_,ap⟩:=ht.1.ex;rw[hp] at bv;injection bv with bv;subst bv;have bk:cU (bx u) p.locals p.au x.place:=by
  rcases an with⟨ac,_⟩|⟨ac,_⟩|⟨ac,_,au⟩|⟨ac,_⟩|⟨ac,_⟩|⟨ac,_⟩
  .omega
  .omega
  .exact au
  .omega
  .omega
  .omega
 have:=(jt (s:=s) hU ht.1 ad bk).2 ad;rw[ar];exact this.1
theorem s9(h:oa u s t=some r):IN u s t=false:=by unfold IN;rw[h];simp
def oZ(u:ay)(s:aj)(d:List Int):Prop:=∀t∈d,∃e o,w4 u s t e o/\o∈d
theorem oZ.step{d:List Int}(hU:cZ u)(hS:aV u D s)(h:oZ u s d)(p:Int)(J:(b9 u s p).1.fault=0):oZ u (b9 u s p).1 d:=by
 by_cases hp:p∈d
 .obtain⟨e,o,hs,_⟩:=h p hp;rw[j4 (by rw[<-EX hU hS];exact s9 hs.waits)];exact h
 .intro t ht;obtain⟨e,o,hs,bn⟩:=h t ht;obtain⟨f,x,az,_⟩:=ma hs.waits;obtain⟨ac,au,aU,bE⟩:=uL hU hS hs.waits;have dN:p≠t:=λe=>hp (by rw[e];exact ht);have cY:p≠o:=λe=>hp (by rw[e];exact bn);have h0:=hs.o0;exact⟨e,o,hs.ak (wC hU ⟨aU,bE⟩ dN (jI az).1 J) (wD ac ad ad),bn⟩
end
def iP(u:ay):aj->List Int->aj
 | s,[]=>s
 | s,t::l=>iP u (b9 u s t).1 l
def jJ(u:ay):aj->List Int->List Int
 | _,[]=>[]
 | s,t::l=>(if (b9 u s t).2 then [t] else [])++jJ u (b9 u s t).1 l
section
variable {u:ay} {D:Nat}
theorem uu:∀(l m:List Int) (s:aj),iP u s (l++m)=iP u (iP u s l) m
 | [],_,_=>rfl
 | t::l,m,s=>uu l m _
theorem uJ:∀(l m:List Int) (s:aj),jJ u s (l++m)=jJ u s l++jJ u (iP u s l) m
 | [],_,_=>rfl
 | t::l,m,s=>by
  rw[KS,jJ,jJ,iP,uJ l m,KR]
theorem HH(l:List Int):∀s:aj,(jJ u s l).length<=l.length:=by
 induction l with
 | nil=>intro s;exact KD _
 | cons t l ao=>
  intro s;have:=ao (b9 u s t).1;rw[jJ,KF,KQ];split<;>simp<;>omega
theorem wx(hU:cZ u):∀(l:List Int) (D:Nat) (s:aj),aV u D s->aV u (D+l.length) (iP u s l)
 | [],_,_,h=>h
 | t::l,D,s,h=>by
  have:=wx hU l (D+1) _ (uD (t:=t) hU h);rw[KQ,show D+(l.length+1)=D+1+l.length by omega];exact this
end
end Go.Proofs.YtglbpimocmhojaaGreat
