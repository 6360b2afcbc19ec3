/- Part 16 of the proof. No condition of its own. -/
import Derived.Test.YtnigabjngpnbiabGreatF05
import Derived.Test.YtnigabjngpnbiabGreatF08
import Derived.Test.YtnigabjngpnbiabGreatF15
namespace Go.Proofs.YtnigabjngpnbiabGreat
open Go.RowKit Go.Proofs.Tryz
set_option maxRecDepth 1000000
set_option maxHeartbeats 25600000
set_option linter.unusedVariables false
variable{e:Int}{is:List Int}{i k n:Nat}{p:cR}
def idx(ms:Int)(r:Int×Int):Int×Int:=if r.2≠0 then (0,r.2) else if r.1<0\/ms<=r.1 then (0,2) else (r.1,0)
structure Aq(w:World)(MA:NH)(mn:Nat)(X:List bM)(G L:NH)(ng nl:Nat)(g l:List Int)(e:VE)(i:Nat)(m:bM)(b o:Nat)(c0 c1 c2 c3:Value):Prop where
 ev:lR w G L ng nl g l e [c0,c1,c2,c3]
 ms:cp (EF hA) 3 w w.heap.size MA mn X
 i1:i<mn
 hm:X[i]?=some m
 bl:b<w.heap.size
 e0:w.cell? ⟨b,o,none⟩=some c0
 e1:w.cell? ⟨b,o+1,none⟩=some c1
 e2:w.cell? ⟨b,o+2,none⟩=some c2
 e3:w.cell? ⟨b,o+3,none⟩=some c3
theorem cp.Lo{w:World}{B:Nat}{A:NH}{l:List bM}(h:cp (EF hA) 3 w B A n l)(aj:k<n):
  ∃b o m,A=some ⟨b,o,none⟩/\b<B/\l[k]?=some m/\w.cell? ⟨b,o+k*3,none⟩=some (.string m.name)/\w.cell? ⟨b,o+k*3+1,none⟩=some (.bool m.re)/\w.cell? ⟨b,o+k*3+2,none⟩=some (.int .i64 m.size):=by
 obtain⟨b,o,x,bF,O,hx,_,hc⟩:=h.Kt aj;exact⟨b,o,x,bF,O,hx,hc 0 _ rfl,hc 1 _ rfl,hc 2 _ rfl⟩
namespace DA
theorem Bs{p:Prop}(h:p:=by
 have q1:decide ((i:Int)<0)=false:=by simp
 have cL:decide (i>=mn)=false:=by simp;omega
 have a:decide (mn<=i)=false:=by simp;omega
 have de:(0:Int)<=(i:Int):=ad;have dc:(i:Int)<(mn:Int):=ad;have bO:=ae (bd.on (Fr.ext aF));clear hm al bd E;go_enter func93,ntmps93;go_wp2_with(fail);have cZ:=(aF.cell (j:=o) T (λh=>h)).trans e0;have cw:=(aF.cell (j:=o+1) T (λh=>h)).trans e1;generalize w.alloc (.cells #[false,i,.slice (some ⟨b,o,none⟩) 1 pc] 39)=W at *;refine(pQ e W G L ng nl cg cl g l _ _ _ _ bO.o).mono ?_;exact H0
 ):p:=h
end DA
open DA in
theorem zm(w:World)(MA:NH)(mn mc:Nat)(X:List bM)(G L:NH)(ng nl cg cl:Nat)(g l:List Int)(e:VE)(i:Nat)(m:bM)(b o pc:Nat)(c0 c1 c2 c3:Value)
  (h:Aq w MA mn X G L ng nl g l e i m b o c0 c1 c2 c3) :
  Calls prog 93 #[.agg #[false,i,.slice (some ⟨b,o,none⟩) 1 pc],.slice MA mn mc,.slice G ng cg,.slice L nl cl] w (gx w (idx m.size (ev g l e))):=by
 exact Br
namespace DB
theorem Bs{p:Prop}(h:p:=by
 have de:(0:Int)<=(i:Int):=ad;have dc:(i:Int)<(mn:Int):=ad;have bO:=ae (bd.on (Fr.ext aF));have c:=ae a;clear hm al bd E a;go_enter func119,ntmps119;go_wp2_with(fail);have cZ:=(aF.cell (j:=o) T (λh=>h)).trans e0;have cw:=(aF.cell (j:=o+1) T (λh=>h)).trans e1;generalize w.alloc (.cells #[false,i,.slice (some ⟨b,o,none⟩) 1 pc] 39)=W at *;refine(ob e W G L ng nl cg cl g l _ _ _ _ bO.o c.o).mono ?_;exact H0
 ):p:=h
end DB
open DB in
theorem tV(w:World)(MA:NH)(mn mc:Nat)(X:List bM)(G L:NH)(ng nl cg cl:Nat)(g l:List Int)(e:VE)(i:Nat)(m:bM)(b o pc:Nat)(c0 c1 c2 c3:Value)
  (h:Aq w MA mn X G L ng nl g l e i m b o c0 c1 c2 c3) (a:ow g l e) :
  Calls prog 119 #[.agg #[false,i,.slice (some ⟨b,o,none⟩) 1 pc],.slice MA mn mc,.slice G ng cg,.slice L nl cl] w (gx w (idx m.size (ev g l e))):=by
 exact Br
theorem wo(w:World)(i:Int)(A:NH)(pc:Nat)(b:Bool)(m g l:Value):Calls prog 93 #[.agg #[b,i,.slice A 0 pc],m,g,l] w (gx w (0,0)):=by
 go_enter func93,ntmps93;go_wp2
 go_ret2
 exact wA
theorem rT(w:World)(i:Int)(A:NH)(pc:Nat)(b:Bool)(m g l:Value):Calls prog 119 #[.agg #[b,i,.slice A 0 pc],m,g,l] w (gx w (0,0)):=by
 go_enter func119,ntmps119;go_wp2
 go_ret2
 exact wA
def dF(s:ai)(t:Int):Option ao:=if s.fault≠0\/t<0 then none else (s.threads[t.toNat]?).bind List.getLast?
def dC(u:aw)(s:ai)(t:Int):Option aA:=(dF s t).bind λf=>(u.procs[f.proc.toNat]?).bind λp=>p.code[f.pc.toNat]?
def c6(u:aw)(s:ai)(f:ao)(p:bO):Int×Int:=
 match p.at_ with
 | none=>(0,0)
 | some e=>idx (((u.af[p.index.toNat]?).map bM.size).getD 0) (ev s.globals f.ints e)
def bH(u:aw)(s:ai)(f:ao)(p:bO):Int×Int:=
 if p.param then (f.az.getD p.index.toNat 0,0)
 else if (c6 u s f p).2≠0 then (0,(c6 u s f p).2) else (e6 u.af p.index+(c6 u s f p).1,0)
def yJ(u:aw)(s:ai)(t:Int)(p:bO):Int×Int:=match dF s t with
 | none=>(0,0)
 | some f=>bH u s f p
def cW(g l:List Int):List VE->List Int×Int
 | []=>([],0)
 | e::es=>if (ev g l e).2≠0 then ([],(ev g l e).2) else if (cW g l es).2≠0 then ([],(cW g l es).2) else ((ev g l e).1::(cW g l es).1,0)
def b3(u:aw)(s:ai)(f:ao):List bO->List Int×Int
 | []=>([],0)
 | p::ps=>if (bH u s f p).2≠0 then ([],(bH u s f p).2) else if (b3 u s f ps).2≠0 then ([],(b3 u s f ps).2) else ((bH u s f p).1::(b3 u s f ps).1,0)
def fi(u:aw)(k:Int):Nat:=(((u.procs[k.toNat]?).map cR.locals).getD 0).toNat
def dt(u:aw)(k:Int)(is ls:List Int):ao:=⟨k,0,is++List.replicate (fi u k - is.length) 0,ls⟩
def eS(u:aw):ai:=⟨u.globals,List.replicate (own u.af).length ⟨0,0⟩,[[dt u u.main [] []]],0⟩
def bu(s:ai)(t:Int)(f:ao):ai:={s with threads:=s.threads.modify t.toNat λfs=>fs.dropLast++[f]}
def qY(s:ai)(t:Int)(f:ao):ai:={s with threads:=s.threads.modify t.toNat λfs=>fs++[f]}
def vt(s:ai)(t:Int):ai:={s with threads:=s.threads.modify t.toNat List.dropLast}
def next(f:ao):ao:={f with pc:=f.pc+1}
def cc(a b:Int)(many:Bool):Int:=if a≠0 then a else if b≠0 then b else if many then 4 else 0
def b5(u:aw)(s:ai)(t:Int)(f:ao)(x:aA):ai×Bool:=
 if x.op=1\/x.op=6 then
  let r:=ev s.globals f.ints (x.expr.getD (.num 0))
  if r.2≠0 then ({s with fault:=r.2},true)
  else if x.op=6 then (bu s t (if r.1=0 then {f with pc:=x.target} else next f),true)
  else if x.du then ({bu s t (next f) with globals:=s.globals.set x.target.toNat r.1},true)
  else (bu s t {next f with ints:=f.ints.set x.target.toNat r.1},true)
 else if x.op=2\/x.op=3 then
  let a:=cW s.globals f.ints x.ints
  let b:=b3 u s f x.places
  let e:=cc a.2 b.2 (decide (x.op=3/\32<=s.threads.length))
  if e≠0 then ({s with fault:=e},true)
  else if x.op=3 then ({bu s t (next f) with threads:=(bu s t (next f)).threads++[[dt u x.target a.1 b.1]]},true)
  else (qY (bu s t (next f)) t (dt u x.target a.1 b.1),true)
 else if x.op=4\/x.op=5 then
  let r:=bH u s f x.place
  if r.2≠0 then ({s with fault:=r.2},true)
  else if x.op=4 then (if free u.af s.table r.1 t then ({bu s t (next f) with table:=fJ u.af s.table r.1 t},true) else (s,false))
  else (if heldBy u.af s.table r.1 t then ({bu s t (next f) with table:=c8 u.af s.table r.1 t},true) else ({s with fault:=3},true))
 else if x.op=7 then (bu s t {f with pc:=x.target},true)
 else (vt s t,true)
def bT(u:aw)(s:ai)(t:Int):ai×Bool:=match dF s t,dC u s t with
 | some f,some x=>b5 u s t f x
 | _,_=>(s,false)
theorem pC:∀x:VE,x.lit->x.fit
 | .num n,h=>by
  have q:0<=n/\n<=9223372036854775807:=h;show Fits n
  unfold Fits;omega
 | .gU _,_=>trivial
 | .loc _,_=>trivial
 | .ij _,_=>trivial
 | .un _ x,h=>pC x h
 | .bin _ x y,h=>⟨pC x h.1,pC y h.2⟩
structure cf(u:aw)(f:ao):Prop where
 proc:0<=f.proc
 pc:0<=f.pc
 ex:∃p,u.procs[f.proc.toNat]?=some p/\f.pc<p.code.length/\(f.ints.length:Int)=p.locals/\(f.az.length:Int)=p.az
 fits:∀v∈f.ints,Fits v
 az:∀k∈f.az,0<=k/\k<elems u.af
structure kk(u:aw)(n D:Nat)(i:Nat)(h:di):Prop where
 owner:0<=h.owner/\h.owner<=n
 depth:0<=h.depth/\h.depth<=D
 Jq:h.owner=0↔h.depth=0
 re:1<h.depth->Hn u.af (bF u.af i)=true
structure aP(u:aw)(D:Nat)(s:ai):Prop where
 Ag:1<=s.threads.length/\s.threads.length<=32
 fY:∀t∈s.threads,t.length<=D+1/\∀f∈t,cf u f
 du:s.globals.length=u.globals.length
 m1:∀v∈s.globals,Fits v
 table:s.table.length=(own u.af).length
 holds:∀i h,s.table[i]?=some h->kk u s.threads.length D i h
 fault:0<=s.fault/\s.fault<=4
theorem kk.mono{u:aw}{a6 D j:Nat}{h:di}(ag:kk u n D i h)(hn:n<=a6)(hD:D<=j):kk u a6 j i h:=
 ⟨⟨ag.owner.1,by have:=ag.owner.2;omega⟩,⟨ag.depth.1,by have:=ag.depth.2;omega⟩,ag.Jq,ag.re⟩
section
variable {u:aw} {D:Nat} {s:ai} {t:Int} {f:ao}
theorem j4(h:dF s t=some f):s.fault=0/\0<=t/\∃fs,s.threads[t.toNat]?=some (fs++[f]):=by
 unfold dF at h;split at h
 .cases h
 .rename_i hc;refine⟨ad,ad,?_⟩
  cases bv:s.threads[t.toNat]? with
  | none=>rw[bv] at h;cases h
  | some l=>
   rw[bv] at h;have q:l.getLast?=some f:=h;obtain⟨b2,rfl⟩:=List.getLast?_eq_some_iff.1 q;exact⟨b2,rfl⟩
theorem aP.top(hS:aP u D s)(h:dF s t=some f):cf u f/\0<=t/\t<s.threads.length:=by
 obtain⟨_,h0,fs,bv⟩:=j4 h;have ap:=(List.getElem?_eq_some_iff.1 bv).1;exact⟨(hS.fY _ (M4 bv)).2 f (by simp),h0,ad⟩
theorem qB(hU:cT u)(hF:cf u f):∃p x,u.procs[f.proc.toNat]?=some p/\qX (bg u) p/\p.code[f.pc.toNat]?=some x/\∃len:Nat,p.code.length=len+1/\ir (bg u) p.locals p.az len x/\(x.op≠8->f.pc+1<p.code.length):=by
 obtain⟨p,hp,c7,_,_⟩:=hF.ex;have bh:=hU.procs p (M4 hp);obtain⟨c,hc,_,aj⟩:=bh.code;have h0:=hF.pc;have hlen:p.code.length=c.length+1:=by rw[hc];simp
 have hx:p.code[f.pc.toNat]?=some (p.code[f.pc.toNat]'ad):=List.getElem?_eq_getElem _;refine⟨p,_,hp,bh,hx,c.length,hlen,?_⟩;by_cases ap:f.pc.toNat<c.length
 .have he:p.code[f.pc.toNat]'ad=c[f.pc.toNat]:=by
   simp only[hc];exact List.getElem_append_left ap
  rw[he];exact⟨aj _ (List.getElem_mem _),λ_=>ad⟩
 .have he:p.code[f.pc.toNat]'ad=nS:=by
   simp only[hc];rw[List.getElem_append_right ad];simp
  rw[he];exact⟨.inr (.inr (.inr (.inr (.inr ⟨rfl,rfl⟩)))),λh=>absurd rfl h⟩
theorem yL(hS:aP u D s)(hF:cf u f)(hp:u.procs[f.proc.toNat]?=some p){e:VE}(he:fW (bg u) p.locals e):
  e.ok s.globals.length f.ints.length/\ow s.globals f.ints e/\Fits (ev s.globals f.ints e).1:=by
 obtain⟨q,bv,_,hl,_⟩:=hF.ex;rw[hp] at bv;injection bv with bv;subst bv;have ac:e.ok s.globals.length f.ints.length:=by
  rw[hS.du];have:=he.1;rw[show p.locals.toNat=f.ints.length by omega] at this;exact this
 have i:=pC e he.2;exact⟨ac,⟨hS.m1,hF.fits,i⟩,tA hS.m1 hF.fits e i⟩
end
theorem cT.Gq{u:aw}(h:cT u):po u.af:=⟨by have:=h.zX;omega,h.gV⟩
theorem EC(op a b:Int):(arith op a b).2=0\/(arith op a b).2=1:=by
 unfold arith
 repeat' split
 all_goals simp
theorem qs(g l:List Int):∀x:VE,(ev g l x).2=0\/(ev g l x).2=1
 | .num _=>.inl rfl
 | .gU _=>.inl rfl
 | .loc _=>.inl rfl
 | .ij _=>.inl rfl
 | .un op x=>by
  have aq:=qs g l x;unfold ev
  repeat' split
  all_goals first|exact aq|exact .inl rfl
 | .bin op x y=>by
  have i:=qs g l x;have c:=qs g l y;unfold ev
  repeat' split
  all_goals first|exact i|exact c|exact .inl rfl|exact EC _ _ _
theorem G5(m:Int)(r:Int×Int)(h:r.2=0\/r.2=1):(idx m r).2=0\/(idx m r).2=1\/(idx m r).2=2:=by
 unfold idx
 repeat' split
 all_goals simp
 all_goals omega
theorem Jp(m:Int)(r:Int×Int)(h:(idx m r).2=0):0<=(idx m r).1/\(idx m r).1<m:=by
 unfold idx at h ⊢;split at h
 .rename_i ac;exact absurd h ac
 .split at h
  .simp at h
  .rename_i ac az;rw[if_neg ac,if_neg az];simp only[];omega
section
variable {u:aw} {D j:Nat} {s:ai} {t:Int} {f b0:ao}
theorem jN(hU:cT u)(hF:cf u f){p:bO}{nl nk:Int}(aj:nk<=f.az.length)(hp:cK (bg u) nl nk p):
  ((bH u s f p).2=0\/(bH u s f p).2=1\/(bH u s f p).2=2)/\((bH u s f p).2=0->0<=(bH u s f p).1/\(bH u s f p).1<elems u.af):=by
 unfold bH;rcases hp with⟨ac,az,aV,aU⟩|⟨ac,m,az,aV,aU,cB⟩
 .rw[if_pos ac];refine⟨.inl rfl,λ_=>?_⟩;have ap:p.index.toNat<f.az.length:=ad;have:f.az.getD p.index.toNat 0=f.az[p.index.toNat]:=by rw[List.getD_eq_getElem?_getD,List.getElem?_eq_getElem ap];rfl
  simp only[this];exact hF.az _ (List.getElem_mem _)
 .rw[if_neg (by simp[ac])];have hm:u.af[p.index.toNat]?=some m:=aV;have U:=hU.gV m (M4 hm);obtain⟨i,aN⟩:=M6 az;rw[aN,Np] at hm;have ap:=(List.getElem?_eq_some_iff.1 hm).1;have O:e6 u.af p.index=elems (u.af.take i):=by rw[aN];exact nM ap
  have h0:=(hU.Gq).mR i;have K:elems (u.af.take i)+m.num<=elems u.af:=by
   have:=rO u.af (i+1);rw[List.take_add_one,hm] at this;simp only[Option.toList_some,iP] at this;exact this
  have b:=m.pF;have a:((c6 u s f p).2=0\/(c6 u s f p).2=1\/(c6 u s f p).2=2)/\((c6 u s f p).2=0->0<=(c6 u s f p).1/\(c6 u s f p).1<m.num):=by
   unfold c6;by_cases aI:0<m.size
   .obtain⟨e,he,_⟩:=aU aI;have E:((u.af[p.index.toNat]?).map bM.size).getD 0=m.size:=by rw[aN,Np,hm];rfl
    rw[he];simp only[E];refine⟨G5 _ _ (qs _ _ _),λh=>?_⟩;have:=Jp _ _ h;unfold bM.num;omega
   .rw[cB aI];refine⟨.inl rfl,λ_=>⟨Int.le_refl _,?_⟩⟩;simp only[];omega
  split
  .rename_i bl;exact⟨a.1,λh=>absurd h bl⟩
  .rename_i heq;refine⟨.inl rfl,λ_=>?_⟩;have:=a.2 ad;simp only[O];omega
theorem qH{α:Type}{l:List α}{g:α->α}{x:α}(h:x∈l.modify i g):x∈l\/∃y,l[i]?=some y/\x=g y:=by
 obtain⟨k,aj⟩:=List.getElem?_of_mem h;rw[List.getElem?_modify] at aj;split at aj
 .rename_i heq;subst heq
  cases bb:l[i]? with
  | none=>rw[bb] at aj;cases aj
  | some y=>
   rw[bb] at aj;exact .inr ⟨y,rfl,by simpa using aj.symm⟩
 .exact .inl (M4 (by simpa using aj))
theorem aP.mono(h:aP u D s)(hD:D<=j):aP u j s:=
 ⟨h.Ag,λt ht=>⟨by have:=(h.fY t ht).1;omega,(h.fY t ht).2⟩,h.du,h.m1,h.table,λi x hx=>(h.holds i x hx).mono (MU _) hD,h.fault⟩
theorem aP.qt(h:aP u D s)(he:0<=e/\e<=4):aP u D {s with fault:=e}:=
 ⟨h.Ag,h.fY,h.du,h.m1,h.table,h.holds,he⟩
theorem aP.threads(h:aP u D s)(g:List ao->List ao)(aR:∀fs,s.threads[t.toNat]?=some fs->(g fs).length<=j+1/\∀f∈g fs,cf u f)(hD:D<=j) :
  aP u j {s with threads:=s.threads.modify t.toNat g}:=by
 have hl:(s.threads.modify t.toNat g).length=s.threads.length:=List.length_modify ..;refine⟨by show 1<=(s.threads.modify t.toNat g).length/\_<=32;rw[hl];exact h.Ag,λx hx=>?_,h.du,h.m1,h.table,λi x hx=>?_,h.fault⟩
 .rcases qH hx with hx|⟨y,bb,rfl⟩
  .exact⟨by have:=(h.fY x hx).1;omega,(h.fY x hx).2⟩
  .exact aR y bb
 .show kk u (s.threads.modify t.toNat g).length j i x
  rw[hl];exact(h.holds i x hx).mono (MU _) hD
theorem hf(h:aP u D s)(ht:dF s t=some f)(J:cf u b0):aP u D (bu s t b0):=by
 obtain⟨_,_,fs,bv⟩:=j4 ht;refine h.threads _ (λgs bB=>?_) (MU _);rw[bv] at bB;injection bB with bB;subst bB;have:=h.fY _ (M4 bv);simp only[List.dropLast_concat,M3,Nf] at this ⊢;refine⟨this.1,λx hx=>?_⟩;rcases Nc.1 hx with hx|hx
 .exact this.2 x (by simp[hx])
 .have:x=b0:=by simpa using hx
  subst this;exact J
theorem Hi(h:aP u D s):aP u D (vt s t):=by
 refine h.threads _ (λgs bB=>?_) (MU _);have:=h.fY _ (M4 bB);refine⟨by rw[List.length_dropLast];omega,λx hx=>this.2 x (List.mem_of_mem_take (by rw[List.dropLast_eq_take] at hx;exact hx))⟩
theorem FK(h:aP u D s)(J:cf u b0):aP u (D+1) (qY s t b0):=by
 refine h.threads _ (λgs bB=>?_) ad;have:=h.fY _ (M4 bB);refine⟨by simp;omega,λx hx=>?_⟩;rcases Nc.1 hx with hx|hx
 .exact this.2 x hx
 .have:x=b0:=by simpa using hx
  subst this;exact J
theorem qw(hF:cf u f)(hp:u.procs[f.proc.toNat]?=some p){k:Int}(h0:0<=k)(ac:k<p.code.length):cf u {f with pc:=k}:=by
 obtain⟨q,bv,_,az,aV⟩:=hF.ex;rw[hp] at bv;injection bv with bv;subst bv;exact⟨hF.proc,h0,⟨_,hp,ac,az,aV⟩,hF.fits,hF.az⟩
theorem xb(hF:cf u f)(hl:is.length=f.ints.length)(J:∀v∈is,Fits v):cf u {f with ints:=is}:=by
 obtain⟨q,bv,ac,az,aV⟩:=hF.ex;exact⟨hF.proc,hF.pc,⟨q,bv,ac,by show (is.length:Int)=_;rw[hl];exact az,aV⟩,J,hF.az⟩
theorem qC(hS:aP u D s)(hF:cf u f){p:cR}(hp:u.procs[f.proc.toNat]?=some p):∀(es:List VE),(∀e∈es,fW (bg u) p.locals e)->
  ((cW s.globals f.ints es).2=0\/(cW s.globals f.ints es).2=1)/\((cW s.globals f.ints es).2=0->(cW s.globals f.ints es).1.length=es.length)/\∀v∈(cW s.globals f.ints es).1,Fits v
 | [],_=>⟨.inl rfl,λ_=>rfl,λv h=>by simp[cW] at h⟩
 | e::es,h=>by
  obtain⟨ac,az,aV⟩:=qC hS hF hp es λx hx=>h x (by simp[hx]);have he:=yL hS hF hp (h e (by simp));have a:=qs s.globals f.ints e;unfold cW;split
  .rename_i bl;exact⟨a,λh=>absurd h bl,λv bK=>by simp at bK⟩
  .split
   .rename_i bl;exact⟨ac,λh=>absurd h bl,λv bK=>by simp at bK⟩
   .rename_i heq;refine⟨.inl rfl,λ_=>by simp[az ad],λv bK=>?_⟩;rcases Nk.1 bK with rfl|bK
    .exact he.2.2
    .exact aV v bK
theorem nW(hU:cT u)(hF:cf u f){nl nk:Int}(aj:nk<=f.az.length):∀(ps:List bO),(∀p∈ps,cK (bg u) nl nk p)->
  ((b3 u s f ps).2=0\/(b3 u s f ps).2=1\/(b3 u s f ps).2=2)/\((b3 u s f ps).2=0->(b3 u s f ps).1.length=ps.length)/\∀v∈(b3 u s f ps).1,0<=v/\v<elems u.af
 | [],_=>⟨.inl rfl,λ_=>rfl,λv h=>by simp[b3] at h⟩
 | p::ps,h=>by
  obtain⟨ac,az,aV⟩:=nW hU hF aj ps λx hx=>h x (by simp[hx]);have he:=jN (s:=s) hU hF aj (h p (by simp));unfold b3;split
  .rename_i bl;exact⟨he.1,λh=>absurd h bl,λv bK=>by simp at bK⟩
  .rename_i a;split
   .rename_i bl;exact⟨ac,λh=>absurd h bl,λv bK=>by simp at bK⟩
   .rename_i heq;refine⟨.inl rfl,λ_=>by simp[az ad],λv bK=>?_⟩;rcases Nk.1 bK with rfl|bK
    .exact he.2 ad
    .exact aV v bK
theorem sn(hU:cT u){k:Int}{ls:List Int}{sg:Int×Int}(h0:0<=k)(hs:(bg u).sig[k.toNat]?=some sg)(aN:(is.length:Int)=sg.1)(hl:(ls.length:Int)=sg.2)
  (J:∀v∈is,Fits v) (aj:∀v∈ls,0<=v/\v<elems u.af):cf u (dt u k is ls):=by
 have a:(u.procs.map λp=>(p.ints,p.az))[k.toNat]?=some sg:=hs;rw[List.getElem?_map] at a
 cases hp:u.procs[k.toNat]? with
 | none=>rw[hp] at a;cases a
 | some p=>
  rw[hp] at a;injection a with a;subst a;simp only[] at aN hl;have bh:=hU.procs p (M4 hp);obtain⟨c,hc,_⟩:=bh.code;have aJ:fi u k=p.locals.toNat:=by unfold fi;rw[hp];rfl
  have ac:=bh.ints;refine⟨h0,Int.le_refl _,⟨p,hp,?_,?_,hl⟩,λv bK=>?_,aj⟩
  .show (0:Int)<(p.code.length:Int)
   rw[hc];simp
   try omega
  .show ((is++List.replicate (fi u k - is.length) 0).length:Int)=p.locals
   rw[aJ];simp;omega
  .rcases Nc.1 bK with bK|bK
   .exact J v bK
   .rw[(List.mem_replicate.1 bK).2];exact iJ
theorem Hb(hF:cf u f)(hp:u.procs[f.proc.toNat]?=some p)(h:f.pc+1<p.code.length):cf u (next f):=
 qw hF hp (ax hF.pc) h
theorem vP{l:List Int}{v:Int}(h:∀x∈l,Fits x)(bK:Fits v):∀x∈l.set i v,Fits x:=by
 intro x hx;rcases List.mem_or_eq_of_mem_set hx with hx|rfl
 .exact h x hx
 .exact bK
theorem yO{T:List di}(aj:k<T.length):T[k]?=some (kF T k):=by
 unfold kF;rw[Np,List.getElem?_eq_getElem aj];rfl
theorem xl(hS:aP u D s)(h0:0<=e)(ht:0<=t/\t<s.threads.length)(b1:free u.af s.table e t=true):
  ∀i h,(s.table.set e.toNat ⟨t+1,(kF s.table e).depth+1⟩)[i]?=some h->kk u s.threads.length (D+1) i h:=by
 intro i h aN;rw[List.getElem?_set] at aN;split at aN
 .rename_i heq;subst heq;split at aN
  .rename_i ap;injection aN with aN;subst aN;have aR:=yO (T:=s.table) ap;rw[show ((e.toNat:Nat):Int)=e by omega] at aR;have bD:=hS.holds _ _ aR;refine⟨⟨by show 0<=t+1;omega,by show t+1<=_;omega⟩,⟨by have:=bD.depth.1;show 0<=_+1;omega,by have:=bD.depth.2;show _+1<=((D+1:Nat):Int);omega⟩,?_,λh=>?_⟩
   .have:=bD.depth.1;show t+1=0↔(kF s.table e).depth+1=0
    omega
   .have q:1<(kF s.table e).depth+1:=h;rw[show ((e.toNat:Nat):Int)=e by omega];unfold free at b1;simp only[Ng,Bool.or_eq_true,beq_iff_eq,Ny] at b1;rcases b1.2 with az|az
    .have:=bD.Jq.1 az;omega
    .exact az.2
  .cases aN
 .exact(hS.holds i h aN).mono (MU _) ad
theorem um(hS:aP u D s)(ag:heldBy u.af s.table e t=true):
  ∀i h,(s.table.set e.toNat (down (kF s.table e)))[i]?=some h->kk u s.threads.length D i h:=by
 intro i h aN;unfold heldBy at ag;simp only[Ng,beq_iff_eq,Ny] at ag;rw[List.getElem?_set] at aN;split at aN
 .rename_i heq;subst heq;split at aN
  .rename_i ap;injection aN with aN;subst aN;have h0:=(gm.1 ag.1.1).1;have aR:=yO (T:=s.table) ap;rw[show ((e.toNat:Nat):Int)=e by omega] at aR;have bD:=hS.holds _ _ aR;have hd:(kF s.table e).depth≠0:=λh=>by have:=bD.Jq.2 h;omega
   have:=bD.depth;have aB:=bD.owner;unfold down;refine⟨?_,⟨by show 0<=_ - 1;omega,by show _ - 1<=_;omega⟩,?_,λh=>bD.re (by have q:1<(kF s.table e).depth - 1:=h;omega)⟩
   .simp only[];split<;>omega
   .simp only[];split<;>omega
  .cases aN
 .exact hS.holds i h aN
theorem o5(a b:Int)(m:Bool)(bg:0<=a/\a<=4)(O:0<=b/\b<=4):0<=cc a b m/\cc a b m<=4:=by
 unfold cc
 repeat' split
 all_goals omega
theorem qe(a b:Int)(m:Bool)(h:cc a b m=0):a=0/\b=0/\m=false:=by
 unfold cc at h;by_cases bg:a=0
 .by_cases O:b=0
  .cases m
   .exact⟨bg,O,rfl⟩
   .simp[bg,O] at h
  .simp[bg,O] at h
 .simp[bg] at h
theorem vV(hU:cT u)(hS:aP u D s):aP u (D+1) (bT u s t).1:=by
 unfold bT
 cases ht:dF s t with
 | none=>exact hS.mono ad
 | some f=>
  obtain⟨hF,c5,a5⟩:=hS.top ht;obtain⟨p,x,hp,bh,hx,len,hlen,aN,b8⟩:=qB hU hF;have b:dC u s t=some x:=by unfold dC;rw[ht];simp[hp,hx]
  rw[b];simp only[];obtain⟨q,bv,_,cy,bK⟩:=hF.ex;have H:p=q:=by rw[hp] at bv;injection bv
  subst H;have aC:aP u (D+1) s:=hS.mono ad;have hN:x.op≠8->cf u (next f):=λh=>Hb hF hp (b8 h);unfold b5;rcases aN with⟨ac,⟨e,he,bD⟩,az,aV,aU⟩|⟨ac,aR,sg,az,aV,aU,cB,bG,C⟩|⟨ac,aR,az⟩|⟨ac,aR,⟨e,he,bD⟩,az,aV⟩|⟨ac,aR,az,aV⟩|⟨ac,aR⟩
  ·
   have bd:=yL hS hF hp bD;have a:=qs s.globals f.ints e;rw[if_pos (.inl ac),he];simp only[Option.getD_some];split
   .exact aC.qt ad
   .rw[if_neg ad]
    cases cv:x.du with
    | true=>
     simp only[if_true];have:=hf aC ht (hN ad)
     exact⟨this.Ag,this.fY,by show (s.globals.set _ _).length=_;rw[List.length_set];exact hS.du,vP hS.m1 bd.2.2,this.table,this.holds,this.fault⟩
    | false=>
     simp only[Nz,if_false];exact hf aC ht (xb (hN ad) (List.length_set ..) (vP hF.fits bd.2.2))
  ·
   have hI:=qC hS hF hp x.ints bG;have bx:=nW (s:=s) hU hF ad x.places C;rw[if_neg ad,if_pos ac];simp only[];by_cases bl:cc (cW s.globals f.ints x.ints).2 (b3 u s f x.places).2 (decide (x.op=3/\32<=s.threads.length))≠0
   .rw[if_pos bl];exact aC.qt (o5 _ _ _ ad ad)
   .rw[if_neg bl];obtain⟨bg,O,hm⟩:=qe _ _ _ (Classical.not_not.1 bl);have b1:=sn hU (k:=x.target) az aV (by rw[hI.2.1 bg];exact aU) (by rw[bx.2.1 O];exact cB) hI.2.2 bx.2.2;have hT:=hf aC ht (hN ad);by_cases l:x.op=3
    .rw[if_pos l];have aD:s.threads.length<32:=by
      simp only[decide_eq_false_iff_not,not_and] at hm;have:=hm l;omega
     have hl:(bu s t (next f)).threads.length=s.threads.length:=List.length_modify ..;refine⟨?_,λy bb=>?_,hT.du,hT.m1,hT.table,λi y bb=>?_,hT.fault⟩
     .simp only[M3,Nf,hl];omega
     .rcases Nc.1 bb with bb|bb
      .exact hT.fY y bb
      .have:y=[dt u x.target (cW s.globals f.ints x.ints).1 (b3 u s f x.places).1]:=by simpa using bb
       subst this;refine⟨by simp,λz aI=>?_⟩;have:z=dt u x.target (cW s.globals f.ints x.ints).1 (b3 u s f x.places).1:=by simpa using aI
       subst this;exact b1
     .refine(hT.holds i y bb).mono ?_ (MU _);simp only[M3];omega
    .rw[if_neg l];exact FK (hf hS ht (hN ad)) b1
  ·
   have aF:=jN (s:=s) hU hF ad az;rw[if_neg ad,if_neg ad,if_pos ac];simp only[];split
   .refine aC.qt ?_;rcases aF.1 with h|h|h<;>omega
   .rename_i heq;have ba:=aF.2 ad;have hT:=hf aC ht (hN ad);have hl:(bu s t (next f)).threads.length=s.threads.length:=List.length_modify ..;split
    .split
     .rename_i b1;refine⟨hT.Ag,hT.fY,hT.du,hT.m1,by show (fJ _ _ _ _).length=_;rw[fu];exact hS.table,λi y bb=>?_,hT.fault⟩;show kk u (bu s t (next f)).threads.length (D+1) i y
      rw[hl];refine xl hS ba.1 ⟨c5,a5⟩ b1 i y ?_;have d:(fJ u.af s.table (bH u s f x.place).1 t)[i]?=some y:=bb;unfold fJ at d;rw[if_pos b1] at d;exact d
     .exact aC
    .split
     .rename_i ag;refine⟨hT.Ag,hT.fY,hT.du,hT.m1,by show (c8 _ _ _ _).length=_;rw[fp];exact hS.table,λi y bb=>?_,hT.fault⟩;show kk u (bu s t (next f)).threads.length (D+1) i y
      rw[hl];refine(um hS ag i y ?_).mono (MU _) ad;have d:(c8 u.af s.table (bH u s f x.place).1 t)[i]?=some y:=bb;unfold c8 at d;rw[if_pos ag] at d;exact d
     .exact aC.qt ad
  ·
   have a:=qs s.globals f.ints e;rw[if_pos (.inr ac),he];simp only[Option.getD_some];split
   .exact aC.qt ad
   .try rw[if_pos ac]
    refine hf aC ht ?_;split
    .exact qw hF hp az (by rw[hlen];omega)
    .exact hN ad
  .rw[if_neg ad,if_neg ad,if_neg ad,if_pos ac];exact hf aC ht (qw hF hp az (by rw[hlen];omega))
  .rw[if_neg ad,if_neg ad,if_neg ad,if_neg ad];exact Hi aC
theorem pD(hU:cT u):aP u 0 (eS u):=by
 obtain⟨p,h0,hp,aN,hl⟩:=hU.main;have J:cf u (dt u u.main [] []):=by
  refine sn hU h0 (sg:=(0,0)) ?_ rfl rfl (λv bK=>by simp at bK) (λv bK=>by simp at bK);show (u.procs.map λp=>(p.ints,p.az))[u.main.toNat]?=_
  rw[List.getElem?_map,hp];simp[aN,hl]
 refine⟨by show 1<=[[dt u u.main [] []]].length/\_;simp[eS],λt ht=>?_,rfl,λv bK=>?_,by simp[eS],λi h aN=>?_,by simp[eS]⟩
 .have:t=[dt u u.main [] []]:=by simpa[eS] using ht
  subst this;refine⟨by simp,λx hx=>?_⟩;have:x=dt u u.main [] []:=by simpa using hx
  subst this;exact J
 .have:=hU.globals v bK;unfold Fits;omega
 .have r:(List.replicate (own u.af).length (⟨0,0⟩:di))[i]?=some h:=aN;rw[List.getElem?_replicate] at r;split at r
  .injection r with r;subst r;exact⟨⟨by simp,by simp⟩,⟨by simp,by simp⟩,by simp,λh=>by simp at h⟩
  .cases r
end
end Go.Proofs.YtnigabjngpnbiabGreat
