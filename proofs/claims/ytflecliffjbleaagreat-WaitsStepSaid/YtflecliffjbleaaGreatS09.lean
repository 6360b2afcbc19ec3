/- Part 9 of the proof. No condition of its own. -/
import Derived.Test.YtflecliffjbleaaGreatS08
namespace Go.Proofs.YtflecliffjbleaaGreat
open Go.RowKit Go.Proofs.Tryz
set_option maxRecDepth 1000000
set_option maxHeartbeats 25600000
set_option linter.unusedVariables false
variable{e k l o p:Int}{r:Int×Int}{is:List Int}{X:List bL}{T:List dc}{i:Nat}
def dO(s:ai)(t:Int):Option an:=if s.fault≠0\/t<0 then none else (s.threads[t.toNat]?).bind List.getLast?
def dz(u:aw)(s:ai)(t:Int):Option ay:=(dO s t).bind λf=>(u.procs[f.proc.toNat]?).bind λp=>p.code[f.pc.toNat]?
def cW(u:aw)(s:ai)(f:an)(p:bP):Int×Int:=
 match p.at_ with
 | none=>(0,0)
 | some e=>idx (((u.af[p.index.toNat]?).map bL.size).getD 0) (ev s.globals f.ints e)
def bj(u:aw)(s:ai)(f:an)(p:bP):Int×Int:=
 if p.param then (f.ax.getD p.index.toNat 0,0)
 else if (cW u s f p).2≠0 then (0,(cW u s f p).2) else (e4 u.af p.index+(cW u s f p).1,0)
def x4(u:aw)(s:ai)(t:Int)(p:bP):Int×Int:=match dO s t with
 | none=>(0,0)
 | some f=>bj u s f p
def cP(g l:List Int):List VE->List Int×Int
 | []=>([],0)
 | e::es=>if (ev g l e).2≠0 then ([],(ev g l e).2) else if (cP g l es).2≠0 then ([],(cP g l es).2) else ((ev g l e).1::(cP g l es).1,0)
def bZ(u:aw)(s:ai)(f:an):List bP->List Int×Int
 | []=>([],0)
 | p::ps=>if (bj u s f p).2≠0 then ([],(bj u s f p).2) else if (bZ u s f ps).2≠0 then ([],(bZ u s f ps).2) else ((bj u s f p).1::(bZ u s f ps).1,0)
def fa(u:aw)(k:Int):Nat:=(((u.procs[k.toNat]?).map cM.locals).getD 0).toNat
def dn(u:aw)(k:Int)(is ls:List Int):an:=⟨k,0,is++List.replicate (fa u k - is.length) 0,ls⟩
def eV(u:aw):ai:=⟨u.globals,List.replicate (own u.af).length ⟨0,0⟩,[[dn u u.main [] []]],0⟩
def bq(s:ai)(t:Int)(f:an):ai:={s with threads:=s.threads.modify t.toNat λfs=>fs.dropLast++[f]}
def qM(s:ai)(t:Int)(f:an):ai:={s with threads:=s.threads.modify t.toNat λfs=>fs++[f]}
def uL(s:ai)(t:Int):ai:={s with threads:=s.threads.modify t.toNat List.dropLast}
def next(f:an):an:={f with pc:=f.pc+1}
def b5(a b:Int)(many:Bool):Int:=if a≠0 then a else if b≠0 then b else if many then 4 else 0
def b1(u:aw)(s:ai)(t:Int)(f:an)(x:ay):ai×Bool:=
 if x.op=1\/x.op=6 then
  let r:=ev s.globals f.ints (x.expr.getD (.num 0))
  if r.2≠0 then ({s with fault:=r.2},true)
  else if x.op=6 then (bq s t (if r.1=0 then {f with pc:=x.target} else next f),true)
  else if x.du then ({bq s t (next f) with globals:=s.globals.set x.target.toNat r.1},true)
  else (bq s t {next f with ints:=f.ints.set x.target.toNat r.1},true)
 else if x.op=2\/x.op=3 then
  let a:=cP s.globals f.ints x.ints
  let b:=bZ u s f x.places
  let e:=b5 a.2 b.2 (decide (x.op=3/\32<=s.threads.length))
  if e≠0 then ({s with fault:=e},true)
  else if x.op=3 then ({bq s t (next f) with threads:=(bq s t (next f)).threads++[[dn u x.target a.1 b.1]]},true)
  else (qM (bq s t (next f)) t (dn u x.target a.1 b.1),true)
 else if x.op=4\/x.op=5 then
  let r:=bj u s f x.place
  if r.2≠0 then ({s with fault:=r.2},true)
  else if x.op=4 then (if free u.af s.table r.1 t then ({bq s t (next f) with table:=fJ u.af s.table r.1 t},true) else (s,false))
  else (if heldBy u.af s.table r.1 t then ({bq s t (next f) with table:=cY u.af s.table r.1 t},true) else ({s with fault:=3},true))
 else if x.op=7 then (bq s t {f with pc:=x.target},true)
 else (uL s t,true)
def cj(u:aw)(s:ai)(t:Int):ai×Bool:=match dO s t,dz u s t with
 | some f,some x=>b1 u s t f x
 | _,_=>(s,false)
theorem po:∀x:VE,x.lit->x.fit
 | .num n,h=>by
  have q:0<=n/\n<=9223372036854775807:=h;show Fits n
  unfold Fits;omega
 | .ha _,_=>trivial
 | .loc _,_=>trivial
 | .iK _,_=>trivial
 | .un _ x,h=>po x h
 | .bin _ x y,h=>⟨po x h.1,po y h.2⟩
structure ca(u:aw)(f:an):Prop where
 proc:0<=f.proc
 pc:0<=f.pc
 ex:∃p,u.procs[f.proc.toNat]?=some p/\f.pc<p.code.length/\(f.ints.length:Int)=p.locals/\(f.ax.length:Int)=p.ax
 fits:∀v∈f.ints,Fits v
 ax:∀k∈f.ax,0<=k/\k<elems u.af
structure j8(u:aw)(n D:Nat)(i:Nat)(h:dc):Prop where
 owner:0<=h.owner/\h.owner<=n
 depth:0<=h.depth/\h.depth<=D
 Ig:h.owner=0↔h.depth=0
 re:1<h.depth->Gk u.af (bD u.af i)=true
structure aT(u:aw)(D:Nat)(s:ai):Prop where
 yz:1<=s.threads.length/\s.threads.length<=32
 fV:∀t∈s.threads,t.length<=D+1/\∀f∈t,ca u f
 du:s.globals.length=u.globals.length
 mV:∀v∈s.globals,Fits v
 table:s.table.length=(own u.af).length
 holds:∀i h,s.table[i]?=some h->j8 u s.threads.length D i h
 fault:0<=s.fault/\s.fault<=4
theorem j8.mono{u:aw}{n aQ D j:Nat}{h:dc}(ag:j8 u n D i h)(hn:n<=aQ)(hD:D<=j):j8 u aQ j i h:=
 ⟨⟨ag.owner.1,by have:=ag.owner.2;omega⟩,⟨ag.depth.1,by have:=ag.depth.2;omega⟩,ag.Ig,ag.re⟩
section
variable {u:aw} {D:Nat} {s:ai} {t:Int} {f:an}
theorem jU(h:dO s t=some f):s.fault=0/\0<=t/\∃fs,s.threads[t.toNat]?=some (fs++[f]):=by
 unfold dO at h;split at h
 .cases h
 .rename_i hc;refine⟨ad,ad,?_⟩
  cases bv:s.threads[t.toNat]? with
  | none=>rw[bv] at h;cases h
  | some l=>
   rw[bv] at h;have q:l.getLast?=some f:=h;obtain⟨cG,rfl⟩:=List.getLast?_eq_some_iff.1 q;exact⟨cG,rfl⟩
theorem aT.top(hS:aT u D s)(h:dO s t=some f):ca u f/\0<=t/\t<s.threads.length:=by
 obtain⟨_,h0,fs,bv⟩:=jU h;have ap:=(List.getElem?_eq_some_iff.1 bv).1;exact⟨(hS.fV _ (LF bv)).2 f (by simp),h0,ad⟩
theorem qn(hU:dg u)(hF:ca u f):∃p x,u.procs[f.proc.toNat]?=some p/\qL (br u) p/\p.code[f.pc.toNat]?=some x/\∃len:Nat,p.code.length=len+1/\ib (br u) p.locals p.ax len x/\(x.op≠8->f.pc+1<p.code.length):=by
 obtain⟨p,hp,c9,_,_⟩:=hF.ex;have be:=hU.procs p (LF hp);obtain⟨c,hc,_,aj⟩:=be.code;have h0:=hF.pc;have hlen:p.code.length=c.length+1:=by rw[hc];simp
 have hx:p.code[f.pc.toNat]?=some (p.code[f.pc.toNat]'ad):=List.getElem?_eq_getElem _;refine⟨p,_,hp,be,hx,c.length,hlen,?_⟩;by_cases ap:f.pc.toNat<c.length
 .have he:p.code[f.pc.toNat]'ad=c[f.pc.toNat]:=by
   simp only[hc];exact List.getElem_append_left ap
  rw[he];exact⟨aj _ (List.getElem_mem _),λ_=>ad⟩
 .have he:p.code[f.pc.toNat]'ad=nJ:=by
   simp only[hc];rw[List.getElem_append_right ad];simp
  rw[he];exact⟨.inr (.inr (.inr (.inr (.inr ⟨rfl,rfl⟩)))),λh=>absurd rfl h⟩
theorem x6(hS:aT u D s)(hF:ca u f){p:cM}(hp:u.procs[f.proc.toNat]?=some p){e:VE}(he:gw (br u) p.locals e):
  e.ok s.globals.length f.ints.length/\oh s.globals f.ints e/\Fits (ev s.globals f.ints e).1:=by
 obtain⟨q,bv,_,hl,_⟩:=hF.ex;rw[hp] at bv;injection bv with bv;subst bv;have ac:e.ok s.globals.length f.ints.length:=by
  rw[hS.du];have:=he.1;rw[show p.locals.toNat=f.ints.length by omega] at this;exact this
 have i:=po e he.2;exact⟨ac,⟨hS.mV,hF.fits,i⟩,s5 hS.mV hF.fits e i⟩
end
theorem dg.zH{u:aw}(h:dg u):oY u.af:=⟨by have:=h.zh;omega,h.gO⟩
theorem DR(op a b:Int):(arith op a b).2=0\/(arith op a b).2=1:=by
 unfold arith
 repeat' split
 all_goals simp
theorem qe(g l:List Int):∀x:VE,(ev g l x).2=0\/(ev g l x).2=1
 | .num _=>.inl rfl
 | .ha _=>.inl rfl
 | .loc _=>.inl rfl
 | .iK _=>.inl rfl
 | .un op x=>by
  have aq:=qe g l x;unfold ev
  repeat' split
  all_goals first|exact aq|exact .inl rfl
 | .bin op x y=>by
  have i:=qe g l x;have c:=qe g l y;unfold ev
  repeat' split
  all_goals first|exact i|exact c|exact .inl rfl|exact DR _ _ _
theorem F0(m:Int)(r:Int×Int)(h:r.2=0\/r.2=1):(idx m r).2=0\/(idx m r).2=1\/(idx m r).2=2:=by
 unfold idx
 repeat' split
 all_goals simp
 all_goals omega
theorem Ie(m:Int)(r:Int×Int)(h:(idx m r).2=0):0<=(idx m r).1/\(idx m r).1<m:=by
 unfold idx at h ⊢;split at h
 .rename_i ac;exact absurd h ac
 .split at h
  .simp at h
  .rename_i ac ax;rw[if_neg ac,if_neg ax];simp only[];omega
section
variable {u:aw} {D j:Nat} {s:ai} {t:Int} {f bg:an}
theorem iF(hU:dg u)(hF:ca u f){p:bP}{nl nk:Int}(aj:nk<=f.ax.length)(hp:cL (br u) nl nk p):
  ((bj u s f p).2=0\/(bj u s f p).2=1\/(bj u s f p).2=2)/\((bj u s f p).2=0->0<=(bj u s f p).1/\(bj u s f p).1<elems u.af):=by
 unfold bj;rcases hp with⟨ac,ax,a1,aU⟩|⟨ac,m,ax,a1,aU,cy⟩
 .rw[if_pos ac];refine⟨.inl rfl,λ_=>?_⟩;have ap:p.index.toNat<f.ax.length:=ad;have:f.ax.getD p.index.toNat 0=f.ax[p.index.toNat]:=by rw[List.getD_eq_getElem?_getD,List.getElem?_eq_getElem ap];rfl
  simp only[this];exact hF.ax _ (List.getElem_mem _)
 .rw[if_neg (by simp[ac])];have hm:u.af[p.index.toNat]?=some m:=a1;have U:=hU.gO m (LF hm);obtain⟨i,al⟩:=LH ax;rw[al,LZ] at hm;have ap:=(List.getElem?_eq_some_iff.1 hm).1;have O:e4 u.af p.index=elems (u.af.take i):=by rw[al];exact nD ap
  have h0:=(hU.zH).mL i;have K:elems (u.af.take i)+m.num<=elems u.af:=by
   have:=rq u.af (i+1);rw[List.take_add_one,hm] at this;simp only[Option.toList_some,iG] at this;exact this
  have b:=m.pr;have a:((cW u s f p).2=0\/(cW u s f p).2=1\/(cW u s f p).2=2)/\((cW u s f p).2=0->0<=(cW u s f p).1/\(cW u s f p).1<m.num):=by
   unfold cW;by_cases aG:0<m.size
   .obtain⟨e,he,_⟩:=aU aG;have F:((u.af[p.index.toNat]?).map bL.size).getD 0=m.size:=by rw[al,LZ,hm];rfl
    rw[he];simp only[F];refine⟨F0 _ _ (qe _ _ _),λh=>?_⟩;have:=Ie _ _ h;unfold bL.num;omega
   .rw[cy aG];refine⟨.inl rfl,λ_=>⟨Int.le_refl _,?_⟩⟩;simp only[];omega
  split
  .rename_i bl;exact⟨a.1,λh=>absurd h bl⟩
  .rename_i heq;refine⟨.inl rfl,λ_=>?_⟩;have:=a.2 ad;simp only[O];omega
theorem qu{α:Type}{l:List α}{g:α->α}{x:α}(h:x∈l.modify i g):x∈l\/∃y,l[i]?=some y/\x=g y:=by
 obtain⟨k,aj⟩:=List.getElem?_of_mem h;rw[List.getElem?_modify] at aj;split at aj
 .rename_i heq;subst heq
  cases bb:l[i]? with
  | none=>rw[bb] at aj;cases aj
  | some y=>
   rw[bb] at aj;exact .inr ⟨y,rfl,by simpa using aj.symm⟩
 .exact .inl (LF (by simpa using aj))
theorem aT.mono(h:aT u D s)(hD:D<=j):aT u j s:=
 ⟨h.yz,λt ht=>⟨by have:=(h.fV t ht).1;omega,(h.fV t ht).2⟩,h.du,h.mV,h.table,λi x hx=>(h.holds i x hx).mono (Lz _) hD,h.fault⟩
theorem aT.qf(h:aT u D s)(he:0<=e/\e<=4):aT u D {s with fault:=e}:=
 ⟨h.yz,h.fV,h.du,h.mV,h.table,h.holds,he⟩
theorem aT.threads(h:aT u D s)(g:List an->List an)(aY:∀fs,s.threads[t.toNat]?=some fs->(g fs).length<=j+1/\∀f∈g fs,ca u f)(hD:D<=j) :
  aT u j {s with threads:=s.threads.modify t.toNat g}:=by
 have hl:(s.threads.modify t.toNat g).length=s.threads.length:=List.length_modify ..;refine⟨by show 1<=(s.threads.modify t.toNat g).length/\_<=32;rw[hl];exact h.yz,λx hx=>?_,h.du,h.mV,h.table,λi x hx=>?_,h.fault⟩
 .rcases qu hx with hx|⟨y,bb,rfl⟩
  .exact⟨by have:=(h.fV x hx).1;omega,(h.fV x hx).2⟩
  .exact aY y bb
 .show j8 u (s.threads.modify t.toNat g).length j i x
  rw[hl];exact(h.holds i x hx).mono (Lz _) hD
theorem g1(h:aT u D s)(ht:dO s t=some f)(J:ca u bg):aT u D (bq s t bg):=by
 obtain⟨_,_,fs,bv⟩:=jU ht;refine h.threads _ (λgs bF=>?_) (Lz _);rw[bv] at bF;injection bF with bF;subst bF;have:=h.fV _ (LF bv);simp only[List.dropLast_concat,LD,LN] at this ⊢;refine⟨this.1,λx hx=>?_⟩;rcases LL.1 hx with hx|hx
 .exact this.2 x (by simp[hx])
 .have:x=bg:=by simpa using hx
  subst this;exact J
theorem Gf(h:aT u D s):aT u D (uL s t):=by
 refine h.threads _ (λgs bF=>?_) (Lz _);have:=h.fV _ (LF bF);refine⟨by rw[List.length_dropLast];omega,λx hx=>this.2 x (List.mem_of_mem_take (by rw[List.dropLast_eq_take] at hx;exact hx))⟩
theorem ET(h:aT u D s)(J:ca u bg):aT u (D+1) (qM s t bg):=by
 refine h.threads _ (λgs bF=>?_) ad;have:=h.fV _ (LF bF);refine⟨by simp;omega,λx hx=>?_⟩;rcases LL.1 hx with hx|hx
 .exact this.2 x hx
 .have:x=bg:=by simpa using hx
  subst this;exact J
theorem qi(hF:ca u f){p:cM}(hp:u.procs[f.proc.toNat]?=some p)(h0:0<=k)(ac:k<p.code.length):ca u {f with pc:=k}:=by
 obtain⟨q,bv,_,ax,a1⟩:=hF.ex;rw[hp] at bv;injection bv with bv;subst bv;exact⟨hF.proc,h0,⟨_,hp,ac,ax,a1⟩,hF.fits,hF.ax⟩
theorem wx(hF:ca u f)(hl:is.length=f.ints.length)(J:∀v∈is,Fits v):ca u {f with ints:=is}:=by
 obtain⟨q,bv,ac,ax,a1⟩:=hF.ex;exact⟨hF.proc,hF.pc,⟨q,bv,ac,by show (is.length:Int)=_;rw[hl];exact ax,a1⟩,J,hF.ax⟩
theorem qo(hS:aT u D s)(hF:ca u f){p:cM}(hp:u.procs[f.proc.toNat]?=some p):∀(es:List VE),(∀e∈es,gw (br u) p.locals e)->
  ((cP s.globals f.ints es).2=0\/(cP s.globals f.ints es).2=1)/\((cP s.globals f.ints es).2=0->(cP s.globals f.ints es).1.length=es.length)/\∀v∈(cP s.globals f.ints es).1,Fits v
 | [],_=>⟨.inl rfl,λ_=>rfl,λv h=>by simp[cP] at h⟩
 | e::es,h=>by
  obtain⟨ac,ax,a1⟩:=qo hS hF hp es λx hx=>h x (by simp[hx]);have he:=x6 hS hF hp (h e (by simp));have a:=qe s.globals f.ints e;unfold cP;split
  .rename_i bl;exact⟨a,λh=>absurd h bl,λv bG=>by simp at bG⟩
  .split
   .rename_i bl;exact⟨ac,λh=>absurd h bl,λv bG=>by simp at bG⟩
   .rename_i heq;refine⟨.inl rfl,λ_=>by simp[ax ad],λv bG=>?_⟩;rcases LS.1 bG with rfl|bG
    .exact he.2.2
    .exact a1 v bG
theorem nN(hU:dg u)(hF:ca u f){nl nk:Int}(aj:nk<=f.ax.length):∀(ps:List bP),(∀p∈ps,cL (br u) nl nk p)->
  ((bZ u s f ps).2=0\/(bZ u s f ps).2=1\/(bZ u s f ps).2=2)/\((bZ u s f ps).2=0->(bZ u s f ps).1.length=ps.length)/\∀v∈(bZ u s f ps).1,0<=v/\v<elems u.af
 | [],_=>⟨.inl rfl,λ_=>rfl,λv h=>by simp[bZ] at h⟩
 | p::ps,h=>by
  obtain⟨ac,ax,a1⟩:=nN hU hF aj ps λx hx=>h x (by simp[hx]);have he:=iF (s:=s) hU hF aj (h p (by simp));unfold bZ;split
  .rename_i bl;exact⟨he.1,λh=>absurd h bl,λv bG=>by simp at bG⟩
  .rename_i a;split
   .rename_i bl;exact⟨ac,λh=>absurd h bl,λv bG=>by simp at bG⟩
   .rename_i heq;refine⟨.inl rfl,λ_=>by simp[ax ad],λv bG=>?_⟩;rcases LS.1 bG with rfl|bG
    .exact he.2 ad
    .exact a1 v bG
theorem rZ(hU:dg u){ls:List Int}{sg:Int×Int}(h0:0<=k)(hs:(br u).sig[k.toNat]?=some sg)(al:(is.length:Int)=sg.1)(hl:(ls.length:Int)=sg.2)
  (J:∀v∈is,Fits v) (aj:∀v∈ls,0<=v/\v<elems u.af):ca u (dn u k is ls):=by
 have a:(u.procs.map λp=>(p.ints,p.ax))[k.toNat]?=some sg:=hs;rw[List.getElem?_map] at a
 cases hp:u.procs[k.toNat]? with
 | none=>rw[hp] at a;cases a
 | some p=>
  rw[hp] at a;injection a with a;subst a;simp only[] at al hl;have be:=hU.procs p (LF hp);obtain⟨c,hc,_⟩:=be.code;have bL:fa u k=p.locals.toNat:=by unfold fa;rw[hp];rfl
  have ac:=be.ints;refine⟨h0,Int.le_refl _,⟨p,hp,?_,?_,hl⟩,λv bG=>?_,aj⟩
  .show (0:Int)<(p.code.length:Int)
   rw[hc];simp
   try omega
  .show ((is++List.replicate (fa u k - is.length) 0).length:Int)=p.locals
   rw[bL];simp;omega
  .rcases LL.1 bG with bG|bG
   .exact J v bG
   .rw[(List.mem_replicate.1 bG).2];exact iA
theorem F8(hF:ca u f){p:cM}(hp:u.procs[f.proc.toNat]?=some p)(h:f.pc+1<p.code.length):ca u (next f):=
 qi hF hp (aB hF.pc) h
theorem vd{l:List Int}{v:Int}(h:∀x∈l,Fits x)(bG:Fits v):∀x∈l.set i v,Fits x:=by
 intro x hx;rcases List.mem_or_eq_of_mem_set hx with hx|rfl
 .exact h x hx
 .exact bG
theorem x9{k:Nat}(aj:k<T.length):T[k]?=some (jK T k):=by
 unfold jK;rw[LZ,List.getElem?_eq_getElem aj];rfl
theorem wJ(hS:aT u D s)(h0:0<=e)(ht:0<=t/\t<s.threads.length)(b3:free u.af s.table e t=true):
  ∀i h,(s.table.set e.toNat ⟨t+1,(jK s.table e).depth+1⟩)[i]?=some h->j8 u s.threads.length (D+1) i h:=by
 intro i h al;rw[List.getElem?_set] at al;split at al
 .rename_i heq;subst heq;split at al
  .rename_i ap;injection al with al;subst al;have aY:=x9 (T:=s.table) ap;rw[show ((e.toNat:Nat):Int)=e by omega] at aY;have bn:=hS.holds _ _ aY;refine⟨⟨by show 0<=t+1;omega,by show t+1<=_;omega⟩,⟨by have:=bn.depth.1;show 0<=_+1;omega,by have:=bn.depth.2;show _+1<=((D+1:Nat):Int);omega⟩,?_,λh=>?_⟩
   .have:=bn.depth.1;show t+1=0↔(jK s.table e).depth+1=0
    omega
   .have q:1<(jK s.table e).depth+1:=h;rw[show ((e.toNat:Nat):Int)=e by omega];unfold free at b3;simp only[LO,Bool.or_eq_true,beq_iff_eq,Md] at b3;rcases b3.2 with ax|ax
    .have:=bn.Ig.1 ax;omega
    .exact ax.2
  .cases al
 .exact(hS.holds i h al).mono (Lz _) ad
theorem tH(hS:aT u D s)(ag:heldBy u.af s.table e t=true):
  ∀i h,(s.table.set e.toNat (down (jK s.table e)))[i]?=some h->j8 u s.threads.length D i h:=by
 intro i h al;unfold heldBy at ag;simp only[LO,beq_iff_eq,Md] at ag;rw[List.getElem?_set] at al;split at al
 .rename_i heq;subst heq;split at al
  .rename_i ap;injection al with al;subst al;have h0:=(gf.1 ag.1.1).1;have aY:=x9 (T:=s.table) ap;rw[show ((e.toNat:Nat):Int)=e by omega] at aY;have bn:=hS.holds _ _ aY;have hd:(jK s.table e).depth≠0:=λh=>by have:=bn.Ig.2 h;omega
   have:=bn.depth;have az:=bn.owner;unfold down;refine⟨?_,⟨by show 0<=_ - 1;omega,by show _ - 1<=_;omega⟩,?_,λh=>bn.re (by have q:1<(jK s.table e).depth - 1:=h;omega)⟩
   .simp only[];split<;>omega
   .simp only[];split<;>omega
  .cases al
 .exact hS.holds i h al
theorem oR(a b:Int)(m:Bool)(br:0<=a/\a<=4)(O:0<=b/\b<=4):0<=b5 a b m/\b5 a b m<=4:=by
 unfold b5
 repeat' split
 all_goals omega
theorem pX(a b:Int)(m:Bool)(h:b5 a b m=0):a=0/\b=0/\m=false:=by
 unfold b5 at h;by_cases br:a=0
 .by_cases O:b=0
  .cases m
   .exact⟨br,O,rfl⟩
   .simp[br,O] at h
  .simp[br,O] at h
 .simp[br] at h
theorem E6(hU:dg u)(hS:aT u D s):aT u (D+1) (cj u s t).1:=by
 unfold cj
 cases ht:dO s t with
 | none=>exact hS.mono ad
 | some f=>
  obtain⟨hF,c4,bU⟩:=hS.top ht;obtain⟨p,x,hp,be,hx,len,hlen,al,c3⟩:=qn hU hF;have b:dz u s t=some x:=by unfold dz;rw[ht];simp[hp,hx]
  rw[b];simp only[];obtain⟨q,bv,_,cE,bG⟩:=hF.ex;have H:p=q:=by rw[hp] at bv;injection bv
  subst H;have aR:aT u (D+1) s:=hS.mono ad;have hN:x.op≠8->ca u (next f):=λh=>F8 hF hp (c3 h);unfold b1;rcases al with⟨ac,⟨e,he,bn⟩,ax,a1,aU⟩|⟨ac,aY,sg,ax,a1,aU,cy,bQ,C⟩|⟨ac,aY,ax⟩|⟨ac,aY,⟨e,he,bn⟩,ax,a1⟩|⟨ac,aY,ax,a1⟩|⟨ac,aY⟩
  ·
   have ar:=x6 hS hF hp bn;have a:=qe s.globals f.ints e;rw[if_pos (.inl ac),he];simp only[Option.getD_some];split
   .exact aR.qf ad
   .rw[if_neg ad]
    cases cu:x.du with
    | true=>
     simp only[if_true];have:=g1 aR ht (hN ad)
     exact⟨this.yz,this.fV,by show (s.globals.set _ _).length=_;rw[List.length_set];exact hS.du,vd hS.mV ar.2.2,this.table,this.holds,this.fault⟩
    | false=>
     simp only[Me,if_false];exact g1 aR ht (wx (hN ad) (List.length_set ..) (vd hF.fits ar.2.2))
  ·
   have hI:=qo hS hF hp x.ints bQ;have bw:=nN (s:=s) hU hF ad x.places C;rw[if_neg ad,if_pos ac];simp only[];by_cases bl:b5 (cP s.globals f.ints x.ints).2 (bZ u s f x.places).2 (decide (x.op=3/\32<=s.threads.length))≠0
   .rw[if_pos bl];exact aR.qf (oR _ _ _ ad ad)
   .rw[if_neg bl];obtain⟨br,O,hm⟩:=pX _ _ _ (Classical.not_not.1 bl);have b3:=rZ hU (k:=x.target) ax a1 (by rw[hI.2.1 br];exact aU) (by rw[bw.2.1 O];exact cy) hI.2.2 bw.2.2;have hT:=g1 aR ht (hN ad);by_cases l:x.op=3
    .rw[if_pos l];have aD:s.threads.length<32:=by
      simp only[decide_eq_false_iff_not,not_and] at hm;have:=hm l;omega
     have hl:(bq s t (next f)).threads.length=s.threads.length:=List.length_modify ..;refine⟨?_,λy bb=>?_,hT.du,hT.mV,hT.table,λi y bb=>?_,hT.fault⟩
     .simp only[LD,LN,hl];omega
     .rcases LL.1 bb with bb|bb
      .exact hT.fV y bb
      .have:y=[dn u x.target (cP s.globals f.ints x.ints).1 (bZ u s f x.places).1]:=by simpa using bb
       subst this;refine⟨by simp,λz aG=>?_⟩;have:z=dn u x.target (cP s.globals f.ints x.ints).1 (bZ u s f x.places).1:=by simpa using aG
       subst this;exact b3
     .refine(hT.holds i y bb).mono ?_ (Lz _);simp only[LD];omega
    .rw[if_neg l];exact ET (g1 hS ht (hN ad)) b3
  ·
   have aF:=iF (s:=s) hU hF ad ax;rw[if_neg ad,if_neg ad,if_pos ac];simp only[];split
   .refine aR.qf ?_;rcases aF.1 with h|h|h<;>omega
   .rename_i heq;have a9:=aF.2 ad;have hT:=g1 aR ht (hN ad);have hl:(bq s t (next f)).threads.length=s.threads.length:=List.length_modify ..;split
    .split
     .rename_i b3;refine⟨hT.yz,hT.fV,hT.du,hT.mV,by show (fJ _ _ _ _).length=_;rw[fp];exact hS.table,λi y bb=>?_,hT.fault⟩;show j8 u (bq s t (next f)).threads.length (D+1) i y
      rw[hl];refine wJ hS a9.1 ⟨c4,bU⟩ b3 i y ?_;have d:(fJ u.af s.table (bj u s f x.place).1 t)[i]?=some y:=bb;unfold fJ at d;rw[if_pos b3] at d;exact d
     .exact aR
    .split
     .rename_i ag;refine⟨hT.yz,hT.fV,hT.du,hT.mV,by show (cY _ _ _ _).length=_;rw[fj];exact hS.table,λi y bb=>?_,hT.fault⟩;show j8 u (bq s t (next f)).threads.length (D+1) i y
      rw[hl];refine(tH hS ag i y ?_).mono (Lz _) ad;have d:(cY u.af s.table (bj u s f x.place).1 t)[i]?=some y:=bb;unfold cY at d;rw[if_pos ag] at d;exact d
     .exact aR.qf ad
  ·
   have a:=qe s.globals f.ints e;rw[if_pos (.inr ac),he];simp only[Option.getD_some];split
   .exact aR.qf ad
   .try rw[if_pos ac]
    refine g1 aR ht ?_;split
    .exact qi hF hp ax (by rw[hlen];omega)
    .exact hN ad
  .rw[if_neg ad,if_neg ad,if_neg ad,if_pos ac];exact g1 aR ht (qi hF hp ax (by rw[hlen];omega))
  .rw[if_neg ad,if_neg ad,if_neg ad,if_neg ad];exact Gf aR
theorem tk(hU:dg u):aT u 0 (eV u):=by
 obtain⟨p,h0,hp,al,hl⟩:=hU.main;have J:ca u (dn u u.main [] []):=by
  refine rZ hU h0 (sg:=(0,0)) ?_ rfl rfl (λv bG=>by simp at bG) (λv bG=>by simp at bG);show (u.procs.map λp=>(p.ints,p.ax))[u.main.toNat]?=_
  rw[List.getElem?_map,hp];simp[al,hl]
 refine⟨by show 1<=[[dn u u.main [] []]].length/\_;simp[eV],λt ht=>?_,rfl,λv bG=>?_,by simp[eV],λi h al=>?_,by simp[eV]⟩
 .have:t=[dn u u.main [] []]:=by simpa[eV] using ht
  subst this;refine⟨by simp,λx hx=>?_⟩;have:x=dn u u.main [] []:=by simpa using hx
  subst this;exact J
 .have:=hU.globals v bG;unfold Fits;omega
 .have r:(List.replicate (own u.af).length (⟨0,0⟩:dc))[i]?=some h:=al;rw[List.getElem?_replicate] at r;split at r
  .injection r with r;subst r;exact⟨⟨by simp,by simp⟩,⟨by simp,by simp⟩,by simp,λh=>by simp at h⟩
  .cases r
end
def ek(u:aw)(s:ai)(t:Int):Option (Int×Int):=
 match dO s t,dz u s t with
 | some f,some x=>if x.op=4 then
   if (bj u s f x.place).2≠0 then none else if free u.af s.table (bj u s f x.place).1 t=true then none
   else some ((bj u s f x.place).1,(jK s.table (bj u s f x.place).1).owner - 1) else none
 | _,_=>none
def zE(u:aw)(s:ai)(t:Int):Bool:=(dz u s t).isSome && (ek u s t).isNone
def kQ:Option (Int×Int)->Int
 | none=>-1
 | some r=>r.2
def c4(u:aw)(s:ai):List Int:=(List.range s.threads.length).map λt:Nat=>kQ (ek u s (t:Int))
section
variable {u:aw} {D:Nat} {s:ai} {t:Int}
theorem oB(h:dO s t=none):dz u s t=none:=by unfold dz;rw[h];rfl
theorem xu(h:dO s t=none):ek u s t=none:=by unfold ek;rw[h]
theorem kk(h:ek u s t=some r):∃f x,dO s t=some f/\dz u s t=some x/\x.op=4/\(bj u s f x.place).2=0/\free u.af s.table (bj u s f x.place).1 t=false/\
  r=((bj u s f x.place).1,(jK s.table (bj u s f x.place).1).owner - 1):=by
 unfold ek at h;split at h
 .rename_i f x J hx;split at h
  .rename_i co;split at h
   .cases h
   .rename_i E;split at h
    .cases h
    .rename_i b3;injection h with h;exact⟨f,x,J,hx,co,ad,by simpa using b3,h.symm⟩
  .cases h
 .cases h
theorem FQ(hU:dg u)(hS:aT u D s):zE u s t=(cj u s t).2:=by
 unfold zE ek cj
 cases J:dO s t with
 | none=>rw[oB J];rfl
 | some f=>
  cases hx:dz u s t with
  | none=>rfl
  | some x=>
   simp only[Option.isSome_some,Bool.true_and];unfold b1;by_cases ac:x.op=1\/x.op=6
   .rw[if_pos ac,if_neg ad];simp only[]
    repeat' split
    all_goals rfl
   .rw[if_neg ac];by_cases ax:x.op=2\/x.op=3
    .rw[if_pos ax,if_neg ad];simp only[]
     repeat' split
     all_goals rfl
    .rw[if_neg ax];by_cases aU:x.op=4
     .rw[if_pos aU,if_pos (Or.inl aU)];simp only[aU,if_true]
      repeat' split
      all_goals first|rfl|simp_all
     .rw[if_neg aU];simp only[]
      repeat' split
      all_goals first|rfl|omega
theorem jh:(c4 u s).length=s.threads.length:=by simp[c4]
theorem y1(hS:aT u D s)(e:Int):0<=(jK s.table e).owner/\(jK s.table e).owner<=s.threads.length:=by
 unfold jK
 cases h:s.table[e.toNat]? with
 | none=>simp
 | some x=>simpa using (hS.holds _ x h).owner
theorem wA(hS:aT u D s):dF (c4 u s):=by
 intro x hx;obtain⟨k,aj,rfl⟩:=L5.1 hx;rw[jh];have hn:=hS.yz
 cases h:ek u s (k:Int) with
 | none=>simp only[kQ];omega
 | some r=>
  obtain⟨f,x,_,_,_,_,_,rfl⟩:=kk h;have:=y1 hS (bj u s f x.place).1;simp only[kQ];omega
def ka:VE->Prop
 | .iK _=>False
 | .un _ x=>ka x
 | .bin _ x y=>ka x/\ka y
 | _=>True
theorem lp(g ah l:List Int):∀x:VE,ka x->ev g l x=ev ah l x
 | .num _,_=>rfl
 | .ha _,_=>rfl
 | .loc _,_=>rfl
 | .iK _,h=>h.elim
 | .un op x,h=>by
  have aq:=lp g ah l x h
  simp only[ev,aq]
 | .bin op x y,h=>by
  have i:=lp g ah l x h.1;have c:=lp g ah l y h.2;simp only[ev,i,c]
structure xF(u:aw)(s:ai)(t e o:Int):Prop where
 waits:ek u s t=some (e,o)
 o0:0<=o
 ka:∀x v,dz u s t=some x->x.place.at_=some v->ka v
theorem wo{aq:ai}{f:an}{p:bP}(h:∀v,p.at_=some v->ka v):bj u aq f p=bj u s f p:=by
 have al:cW u aq f p=cW u s f p:=by
  unfold cW
  cases hp:p.at_ with
  | none=>rfl
  | some v=>simp only[lp aq.globals s.globals f.ints v (h v hp)]
 unfold bj;rw[al]
theorem xF.ak{aq:ai}(h:xF u s t e o)(ht:dO aq t=dO s t)(ag:jK aq.table e=jK s.table e):xF u aq t e o:=by
 obtain⟨f,x,J,hx,co,E,b3,a9⟩:=kk h.waits;have g:dz u aq t=some x:=by
  unfold dz at hx ⊢;rw[ht];exact hx
 have he:=wo (u:=u) (s:=s) (aq:=aq) (f:=f) (p:=x.place) λv bG=>h.ka x v hx bG;injection a9 with ar bL;refine⟨?_,h.o0,λy v bb bG=>?_⟩
 .unfold ek;rw[ht,J,g];simp only[];rw[if_pos co,he,if_neg ad];have a:free u.af aq.table (bj u s f x.place).1 t=false:=by
   rw[<-ar];rw[<-ar] at b3;unfold free at b3 ⊢;rw[ag];exact b3
  rw[if_neg (by simp[a]),<-ar,ag,<-ar] at *;simp[bL]
 .rw[g] at bb;injection bb with bb;subst bb;exact h.ka x v hx bG
theorem ie{l:List (List an)}{j:Nat}{g:List an->List an}(h:i≠j):(l.modify i g)[j]?=l[j]?:=by
 rw[List.getElem?_modify]
 cases l[j]? with
 | none=>rfl
 | some y=>simp[h]
theorem vo{s aq:ai}(J:aq.fault=s.fault)(h:aq.threads[t.toNat]?=s.threads[t.toNat]?):dO aq t=dO s t:=by
 unfold dO;rw[J,h]
theorem xd(hU:dg u)(ht:0<=t/\t<s.threads.length)(hp:p≠t)(b2:s.fault=0)(J:(cj u s p).1.fault=0):dO (cj u s p).1 t=dO s t:=by
 refine vo (J.trans b2.symm) ?_;unfold cj at J ⊢
 cases bv:dO s p with
 | none=>rfl
 | some f=>
  have i:0<=p:=(jU bv).2.1;have bl:p.toNat≠t.toNat:=ad
  cases hx:dz u s p with
  | none=>rfl
  | some x=>
   simp only[];unfold b1;simp only[]
   repeat' split
   all_goals simp only[bq,qM,uL]
   all_goals first
    | rfl
    | exact ie bl
    | (rw[ie bl];exact ie bl)
    | (rw[List.getElem?_append_left (by rw[List.length_modify];omega)];exact ie bl)
theorem Et(h0:0<=bD X e\/True)(he:0<=e)(bn:(jK T e).owner≠0)(hp:(jK T e).owner≠p+1):jK (fJ X T l p) e=jK T e:=by
 unfold fJ;split
 .rename_i b3;by_cases g:l=e
  .subst g;unfold free at b3;simp[bn,hp] at b3
  .have a:0<=l:=by
    unfold free at b3;simp only[LO,Md] at b3;exact(gf.1 b3.1.1).1
   unfold jK;rw[List.getElem?_set_ne ad]
 .rfl
theorem xr(he:0<=e)(hp:(jK T e).owner≠p+1):jK (cY X T l p) e=jK T e:=by
 unfold cY;split
 .rename_i ag;by_cases g:l=e
  .subst g;unfold heldBy at ag;simp[hp] at ag
  .have a:0<=l:=by
    unfold heldBy at ag;simp only[LO,Md] at ag;exact(gf.1 ag.1.1).1
   unfold jK;rw[List.getElem?_set_ne ad]
 .rfl
theorem xe(he:0<=e)(bn:(jK s.table e).owner≠0)(hp:(jK s.table e).owner≠p+1):jK (cj u s p).1.table e=jK s.table e:=by
 unfold cj
 cases bv:dO s p with
 | none=>rfl
 | some f=>
  cases hx:dz u s p with
  | none=>rfl
  | some x=>
   simp only[];unfold b1;simp only[]
   repeat' split
   all_goals first
    | rfl
    | exact Et (.inr trivial) he bn hp
    | exact xr he hp
theorem mC(h:(cj u s t).2=false):(cj u s t).1=s:=by
 unfold cj at h ⊢
 cases bv:dO s t with
 | none=>rfl
 | some f=>
  cases hx:dz u s t with
  | none=>rfl
  | some x=>
   rw[bv,hx] at h;simp only[] at h ⊢;unfold b1 at h ⊢;simp only[] at h ⊢
   repeat' split
   all_goals first
    | rfl
    | (exfalso;simp_all;done)
    | (exfalso;revert h;repeat' split;all_goals simp_all)
theorem vt(hU:dg u)(hS:aT u D s)(h:ek u s t=some (e,o)):0<=e/\(jK s.table e).owner=o+1/\0<=t/\t<s.threads.length:=by
 obtain⟨f,x,J,hx,co,E,b3,a9⟩:=kk h;injection a9 with ar bL;have ht:=hS.top J;refine⟨?_,by rw[ar];omega,ht.2.1,ht.2.2⟩;obtain⟨p,y,hp,be,bb,len,hlen,al,_⟩:=qn hU ht.1;have c:x=y:=by
  unfold dz at hx;rw[J] at hx;simp only[Option.bind_some,hp,bb,Mb] at hx;exact hx.symm
 subst c;obtain⟨q,bv,_,_,aj⟩:=ht.1.ex;rw[hp] at bv;injection bv with bv;subst bv;have bk:cL (br u) p.locals p.ax x.place:=by
  rcases al with⟨ac,_⟩|⟨ac,_⟩|⟨ac,_,ax⟩|⟨ac,_⟩|⟨ac,_⟩|⟨ac,_⟩
  .omega
  .omega
  .exact ax
  .omega
  .omega
  .omega
 have:=(iF (s:=s) hU ht.1 ad bk).2 ad;rw[ar];exact this.1
theorem tI(h:ek u s t=some r):zE u s t=false:=by unfold zE;rw[h];simp
def pJ(u:aw)(s:ai)(d:List Int):Prop:=∀t∈d,∃e o,xF u s t e o/\o∈d
theorem pJ.step{d:List Int}(hU:dg u)(hS:aT u D s)(h:pJ u s d)(p:Int)(J:(cj u s p).1.fault=0):pJ u (cj u s p).1 d:=by
 by_cases hp:p∈d
 .obtain⟨e,o,hs,_⟩:=h p hp;rw[mC (by rw[<-FQ hU hS];exact tI hs.waits)];exact h
 .intro t ht;obtain⟨e,o,hs,bn⟩:=h t ht;obtain⟨f,x,ay,_⟩:=kk hs.waits;obtain⟨ac,ax,a1,aU⟩:=vt hU hS hs.waits;have dJ:p≠t:=λe=>hp (by rw[e];exact ht);have dA:p≠o:=λe=>hp (by rw[e];exact bn);have h0:=hs.o0;exact⟨e,o,hs.ak (xd hU ⟨a1,aU⟩ dJ (jU ay).1 J) (xe ac ad ad),bn⟩
def nV(u:aw)(s:ai):Bool:=(List.range s.threads.length).all λt=>!zE u s (t:Int)
end
def iZ(u:aw):ai->List Int->ai
 | s,[]=>s
 | s,t::l=>iZ u (cj u s t).1 l
def jV(u:aw):ai->List Int->List Int
 | _,[]=>[]
 | s,t::l=>(if (cj u s t).2 then [t] else [])++jV u (cj u s t).1 l
section
variable {u:aw} {D:Nat}
theorem uY:∀(l m:List Int) (s:ai),iZ u s (l++m)=iZ u (iZ u s l) m
 | [],_,_=>rfl
 | t::l,m,s=>uY l m _
theorem vq:∀(l m:List Int) (s:ai),jV u s (l++m)=jV u s l++jV u (iZ u s l) m
 | [],_,_=>rfl
 | t::l,m,s=>by
  rw[LR,jV,jV,iZ,vq l m,LQ]
theorem ID(l:List Int):∀s:ai,(jV u s l).length<=l.length:=by
 induction l with
 | nil=>intro s;exact Lz _
 | cons t l aq=>
  intro s;have:=aq (cj u s t).1;rw[jV,LD,LP];split<;>simp<;>omega
theorem tz(hU:dg u):∀(l:List Int) (D:Nat) (s:ai),aT u D s->aT u (D+l.length) (iZ u s l)
 | [],_,_,h=>h
 | t::l,D,s,h=>by
  have:=tz hU l (D+1) _ (E6 (t:=t) hU h);rw[LP,show D+(l.length+1)=D+1+l.length by omega];exact this
end
end Go.Proofs.YtflecliffjbleaaGreat
