/- Part 7 of the proof. No condition of its own. -/
import Derived.Test.YtpkfopfkdgkfkaaGreatQ04
import Derived.Test.YtpkfopfkdgkfkaaGreatQ05
import Derived.Test.YtpkfopfkdgkfkaaGreatQ06
namespace Go.Proofs.YtpkfopfkdgkfkaaGreat
open Go.RowKit Go.Proofs.Tryz
set_option maxRecDepth 1000000
set_option maxHeartbeats 25600000
set_option linter.unusedVariables false
variable{e:Int}{is:List Int}{c:List aC}{i k n:Nat}{p:cM}
def idx(ms:Int)(r:Int×Int):Int×Int:=if r.2≠0 then (0,r.2) else if r.1<0\/ms<=r.1 then (0,2) else (r.1,0)
structure zt(w:World)(MA:Mt)(mn:Nat)(X:List bM)(G L:Mt)(ng nl:Nat)(g l:List Int)(e:VE)(i:Nat)(m:bM)(b o:Nat)(c0 c1 c2 c3:Value):Prop where
 ev:lO w G L ng nl g l e [c0,c1,c2,c3]
 ms:cw (EF gu) 3 w w.heap.size MA mn X
 i1:i<mn
 hm:X[i]?=some m
 bl:b<w.heap.size
 e0:w.cell? ⟨b,o,none⟩=some c0
 e1:w.cell? ⟨b,o+1,none⟩=some c1
 e2:w.cell? ⟨b,o+2,none⟩=some c2
 e3:w.cell? ⟨b,o+3,none⟩=some c3
theorem cw.Ki{w:World}{B:Nat}{A:Mt}{l:List bM}(h:cw (EF gu) 3 w B A n l)(aj:k<n):
  ∃b o m,A=some ⟨b,o,none⟩/\b<B/\l[k]?=some m/\w.cell? ⟨b,o+k*3,none⟩=some (.string m.name)/\w.cell? ⟨b,o+k*3+1,none⟩=some (.bool m.re)/\w.cell? ⟨b,o+k*3+2,none⟩=some (.int .i64 m.size):=by
 obtain⟨b,o,x,bG,O,hx,_,hc⟩:=h.Jp aj;exact⟨b,o,x,bG,O,hx,hc 0 _ rfl,hc 1 _ rfl,hc 2 _ rfl⟩
namespace Cl
theorem AB{p:Prop}(h:p:=by
 have q1:decide ((i:Int)<0)=false:=by simp
 have cJ:decide (i>=mn)=false:=by simp;omega
 have a:decide (mn<=i)=false:=by simp;omega
 have c9:(0:Int)<=(i:Int):=ad;have dk:(i:Int)<(mn:Int):=ad;have bS:=ae (ar.on (Fr.ext aw));clear hm aN ar F;go_enter func131,ntmps131;go_wp2_with(fail);have dg:=(aw.cell (j:=o) T (λh=>h)).trans e0;have cx:=(aw.cell (j:=o+1) T (λh=>h)).trans e1;generalize w.alloc (.cells #[false,i,.slice (some ⟨b,o,none⟩) 1 pc] 119)=W at *;refine(pq e W G L ng nl cg cl g l _ _ _ _ bS.o).mono ?_;exact Hf
 ):p:=h
end Cl
open Cl in
theorem yw(w:World)(MA:Mt)(mn mc:Nat)(X:List bM)(G L:Mt)(ng nl cg cl:Nat)(g l:List Int)(e:VE)(i:Nat)(m:bM)(b o pc:Nat)(c0 c1 c2 c3:Value)
  (h:zt w MA mn X G L ng nl g l e i m b o c0 c1 c2 c3) :
  Calls prog 131 #[.agg #[false,i,.slice (some ⟨b,o,none⟩) 1 pc],.slice MA mn mc,.slice G ng cg,.slice L nl cl] w (gp w (idx m.size (ev g l e))):=by
 exact AA
namespace Cm
theorem AB{p:Prop}(h:p:=by
 have c9:(0:Int)<=(i:Int):=ad;have dk:(i:Int)<(mn:Int):=ad;have bS:=ae (ar.on (Fr.ext aw));have a:=ae aZ;clear hm aN ar F aZ;go_enter func126,ntmps126;go_wp2_with(fail);have dg:=(aw.cell (j:=o) T (λh=>h)).trans e0;have cx:=(aw.cell (j:=o+1) T (λh=>h)).trans e1;generalize w.alloc (.cells #[false,i,.slice (some ⟨b,o,none⟩) 1 pc] 119)=W at *;refine(nI e W G L ng nl cg cl g l _ _ _ _ bS.o a.o).mono ?_;exact Hf
 ):p:=h
end Cm
open Cm in
theorem tg(w:World)(MA:Mt)(mn mc:Nat)(X:List bM)(G L:Mt)(ng nl cg cl:Nat)(g l:List Int)(e:VE)(i:Nat)(m:bM)(b o pc:Nat)(c0 c1 c2 c3:Value)
  (h:zt w MA mn X G L ng nl g l e i m b o c0 c1 c2 c3) (aZ:nV g l e) :
  Calls prog 126 #[.agg #[false,i,.slice (some ⟨b,o,none⟩) 1 pc],.slice MA mn mc,.slice G ng cg,.slice L nl cl] w (gp w (idx m.size (ev g l e))):=by
 exact AA
theorem vn(w:World)(i:Int)(A:Mt)(pc:Nat)(b:Bool)(m g l:Value):Calls prog 131 #[.agg #[b,i,.slice A 0 pc],m,g,l] w (gp w (0,0)):=by
 go_enter func131,ntmps131;go_wp2
 go_ret2
 exact vx
theorem rf(w:World)(i:Int)(A:Mt)(pc:Nat)(b:Bool)(m g l:Value):Calls prog 126 #[.agg #[b,i,.slice A 0 pc],m,g,l] w (gp w (0,0)):=by
 go_enter func126,ntmps126;go_wp2
 go_ret2
 exact vx
def ey(s:ak)(t:Int):Option al:=if s.fault≠0\/t<0 then none else (s.threads[t.toNat]?).bind List.getLast?
def ek(u:aA)(s:ak)(t:Int):Option aC:=(ey s t).bind λf=>(u.procs[f.proc.toNat]?).bind λp=>p.code[f.pc.toNat]?
def cV(u:aA)(s:ak)(f:al)(p:bU):Int×Int:=
 match p.at_ with
 | none=>(0,0)
 | some e=>idx (((u.af[p.index.toNat]?).map bM.size).getD 0) (ev s.globals f.ints e)
def bH(u:aA)(s:ak)(f:al)(p:bU):Int×Int:=
 if p.param then (f.an.getD p.index.toNat 0,0)
 else if (cV u s f p).2≠0 then (0,(cV u s f p).2) else (e5 u.af p.index+(cV u s f p).1,0)
def x0(u:aA)(s:ak)(t:Int)(p:bU):Int×Int:=match ey s t with
 | none=>(0,0)
 | some f=>bH u s f p
def cR(g l:List Int):List VE->List Int×Int
 | []=>([],0)
 | e::es=>if (ev g l e).2≠0 then ([],(ev g l e).2) else if (cR g l es).2≠0 then ([],(cR g l es).2) else ((ev g l e).1::(cR g l es).1,0)
def b1(u:aA)(s:ak)(f:al):List bU->List Int×Int
 | []=>([],0)
 | p::ps=>if (bH u s f p).2≠0 then ([],(bH u s f p).2) else if (b1 u s f ps).2≠0 then ([],(b1 u s f ps).2) else ((bH u s f p).1::(b1 u s f ps).1,0)
def fb(u:aA)(k:Int):Nat:=(((u.procs[k.toNat]?).map cM.locals).getD 0).toNat
def di(u:aA)(k:Int)(is ls:List Int):al:=⟨k,0,is++List.replicate (fb u k - is.length) 0,ls⟩
def dT(u:aA):ak:=⟨u.globals,List.replicate (own u.af).length ⟨0,0⟩,[[di u u.main [] []]],0⟩
def bt(s:ak)(t:Int)(f:al):ak:={s with threads:=s.threads.modify t.toNat λfs=>fs.dropLast++[f]}
def qv(s:ak)(t:Int)(f:al):ak:={s with threads:=s.threads.modify t.toNat λfs=>fs++[f]}
def uA(s:ak)(t:Int):ak:={s with threads:=s.threads.modify t.toNat List.dropLast}
def next(f:al):al:={f with pc:=f.pc+1}
def cc(a b:Int)(many:Bool):Int:=if a≠0 then a else if b≠0 then b else if many then 4 else 0
def b5(u:aA)(s:ak)(t:Int)(f:al)(x:aC):ak×Bool:=
 if x.op=1\/x.op=6 then
  let r:=ev s.globals f.ints (x.expr.getD (.num 0))
  if r.2≠0 then ({s with fault:=r.2},true)
  else if x.op=6 then (bt s t (if r.1=0 then {f with pc:=x.target} else next f),true)
  else if x.dv then ({bt s t (next f) with globals:=s.globals.set x.target.toNat r.1},true)
  else (bt s t {next f with ints:=f.ints.set x.target.toNat r.1},true)
 else if x.op=2\/x.op=3 then
  let a:=cR s.globals f.ints x.ints
  let b:=b1 u s f x.places
  let e:=cc a.2 b.2 (decide (x.op=3/\32<=s.threads.length))
  if e≠0 then ({s with fault:=e},true)
  else if x.op=3 then ({bt s t (next f) with threads:=(bt s t (next f)).threads++[[di u x.target a.1 b.1]]},true)
  else (qv (bt s t (next f)) t (di u x.target a.1 b.1),true)
 else if x.op=4\/x.op=5 then
  let r:=bH u s f x.place
  if r.2≠0 then ({s with fault:=r.2},true)
  else if x.op=4 then (if free u.af s.table r.1 t then ({bt s t (next f) with table:=fL u.af s.table r.1 t},true) else (s,false))
  else (if heldBy u.af s.table r.1 t then ({bt s t (next f) with table:=c5 u.af s.table r.1 t},true) else ({s with fault:=3},true))
 else if x.op=7 then (bt s t {f with pc:=x.target},true)
 else (uA s t,true)
def cb(u:aA)(s:ak)(t:Int):ak×Bool:=match ey s t,ek u s t with
 | some f,some x=>b5 u s t f x
 | _,_=>(s,false)
theorem oW:∀x:VE,x.lit->x.fit
 | .num n,h=>by
  have E:0<=n/\n<=9223372036854775807:=h;show Fits n
  unfold Fits;omega
 | .hg _,_=>trivial
 | .loc _,_=>trivial
 | .iI _,_=>trivial
 | .un _ x,h=>oW x h
 | .bin _ x y,h=>⟨oW x h.1,oW y h.2⟩
structure cf(u:aA)(f:al):Prop where
 proc:0<=f.proc
 pc:0<=f.pc
 ex:∃p,u.procs[f.proc.toNat]?=some p/\f.pc<p.code.length/\(f.ints.length:Int)=p.locals/\(f.an.length:Int)=p.an
 fits:∀v∈f.ints,Fits v
 an:∀k∈f.an,0<=k/\k<elems u.af
structure j6(u:aA)(n D:Nat)(i:Nat)(h:cx):Prop where
 owner:0<=h.owner/\h.owner<=n
 depth:0<=h.depth/\h.depth<=D
 EG:h.owner=0↔h.depth=0
 re:1<h.depth->w3 u.af (a9 u.af i)=true
structure aW(u:aA)(D:Nat)(s:ak):Prop where
 vk:1<=s.threads.length/\s.threads.length<=32
 fB:∀t∈s.threads,t.length<=D+1/\∀f∈t,cf u f
 dv:s.globals.length=u.globals.length
 mJ:∀v∈s.globals,Fits v
 table:s.table.length=(own u.af).length
 holds:∀i h,s.table[i]?=some h->j6 u s.threads.length D i h
 fault:0<=s.fault/\s.fault<=4
theorem j6.mono{u:aA}{a6 D o:Nat}{h:cx}(ah:j6 u n D i h)(hn:n<=a6)(hD:D<=o):j6 u a6 o i h:=
 ⟨⟨ah.owner.1,by have:=ah.owner.2;omega⟩,⟨ah.depth.1,by have:=ah.depth.2;omega⟩,ah.EG,ah.re⟩
section
variable {u:aA} {D:Nat} {s:ak} {t:Int} {f:al}
theorem jR(h:ey s t=some f):s.fault=0/\0<=t/\∃fs,s.threads[t.toNat]?=some (fs++[f]):=by
 unfold ey at h;split at h
 .cases h
 .rename_i hc;refine⟨ad,ad,?_⟩
  cases bK:s.threads[t.toNat]? with
  | none=>rw[bK] at h;cases h
  | some l=>
   rw[bK] at h;have E:l.getLast?=some f:=h;obtain⟨b0,rfl⟩:=List.getLast?_eq_some_iff.1 E;exact⟨b0,rfl⟩
theorem aW.top(hS:aW u D s)(h:ey s t=some f):cf u f/\0<=t/\t<s.threads.length:=by
 obtain⟨_,h0,fs,bK⟩:=jR h;have an:=(List.getElem?_eq_some_iff.1 bK).1;exact⟨(hS.fB _ (LN bK)).2 f (by simp),h0,ad⟩
theorem p9(hU:da u)(hF:cf u f):∃p x,u.procs[f.proc.toNat]?=some p/\qu (bx u) p/\p.code[f.pc.toNat]?=some x/\∃len:Nat,p.code.length=len+1/\ie (bx u) p.locals p.an len x/\(x.op≠8->f.pc+1<p.code.length):=by
 obtain⟨p,hp,dc,_,_⟩:=hF.ex;have bg:=hU.procs p (LN hp);obtain⟨c,hc,_,aj⟩:=bg.code;have h0:=hF.pc;have hlen:p.code.length=c.length+1:=by rw[hc];simp
 have hx:p.code[f.pc.toNat]?=some (p.code[f.pc.toNat]'ad):=List.getElem?_eq_getElem _;refine⟨p,_,hp,bg,hx,c.length,hlen,?_⟩;by_cases an:f.pc.toNat<c.length
 .have he:p.code[f.pc.toNat]'ad=c[f.pc.toNat]:=by
   simp only[hc];exact List.getElem_append_left an
  rw[he];exact⟨aj _ (List.getElem_mem _),λ_=>ad⟩
 .have he:p.code[f.pc.toNat]'ad=nw:=by
   simp only[hc];rw[List.getElem_append_right ad];simp
  rw[he];exact⟨.inr (.inr (.inr (.inr (.inr ⟨rfl,rfl⟩)))),λh=>absurd rfl h⟩
theorem x2(hS:aW u D s)(hF:cf u f)(hp:u.procs[f.proc.toNat]?=some p){e:VE}(he:gw (bx u) p.locals e):
  e.ok s.globals.length f.ints.length/\nV s.globals f.ints e/\Fits (ev s.globals f.ints e).1:=by
 obtain⟨q,bK,_,hl,_⟩:=hF.ex;rw[hp] at bK;injection bK with bK;subst bK;have ac:e.ok s.globals.length f.ints.length:=by
  rw[hS.dv];have:=he.1;rw[show p.locals.toNat=f.ints.length by omega] at this;exact this
 have i:=oW e he.2;exact⟨ac,⟨hS.mJ,hF.fits,i⟩,sW hS.mJ hF.fits e i⟩
end
theorem da.wK{u:aA}(h:da u):mr u.af:=⟨by have:=h.wP;omega,h.eD⟩
theorem D4(op a b:Int):(arith op a b).2=0\/(arith op a b).2=1:=by
 unfold arith
 repeat' split
 all_goals simp
theorem pV(g l:List Int):∀x:VE,(ev g l x).2=0\/(ev g l x).2=1
 | .num _=>.inl rfl
 | .hg _=>.inl rfl
 | .loc _=>.inl rfl
 | .iI _=>.inl rfl
 | .un op x=>by
  have Z:=pV g l x;unfold ev
  repeat' split
  all_goals first|exact Z|exact .inl rfl
 | .bin op x y=>by
  have i:=pV g l x;have c:=pV g l y;unfold ev
  repeat' split
  all_goals first|exact i|exact c|exact .inl rfl|exact D4 _ _ _
theorem Gm(m:Int)(r:Int×Int)(h:r.2=0\/r.2=1):(idx m r).2=0\/(idx m r).2=1\/(idx m r).2=2:=by
 unfold idx
 repeat' split
 all_goals simp
 all_goals omega
theorem Iz(m:Int)(r:Int×Int)(h:(idx m r).2=0):0<=(idx m r).1/\(idx m r).1<m:=by
 unfold idx at h ⊢;split at h
 .rename_i ac;exact absurd h ac
 .split at h
  .simp at h
  .rename_i ac ap;rw[if_neg ac,if_neg ap];simp only[];omega
section
variable {u:aA} {D o:Nat} {s:ak} {t:Int} {f S:al}
theorem jB(hU:da u)(hF:cf u f){p:bU}{nl nk:Int}(aj:nk<=f.an.length)(hp:c4 (bx u) nl nk p):
  ((bH u s f p).2=0\/(bH u s f p).2=1\/(bH u s f p).2=2)/\((bH u s f p).2=0->0<=(bH u s f p).1/\(bH u s f p).1<elems u.af):=by
 unfold bH;rcases hp with⟨ac,ap,aV,bz⟩|⟨ac,m,ap,aV,bz,cI⟩
 .rw[if_pos ac];refine⟨.inl rfl,λ_=>?_⟩;have an:p.index.toNat<f.an.length:=ad;have:f.an.getD p.index.toNat 0=f.an[p.index.toNat]:=by rw[List.getD_eq_getElem?_getD,List.getElem?_eq_getElem an];rfl
  simp only[this];exact hF.an _ (List.getElem_mem _)
 .rw[if_neg (by simp[ac])];have hm:u.af[p.index.toNat]?=some m:=aV;have U:=hU.eD m (LN hm);obtain⟨i,aX⟩:=LP ap;rw[aX,Mc] at hm;have an:=(List.getElem?_eq_some_iff.1 hm).1;have O:e5 u.af p.index=elems (u.af.take i):=by rw[aX];exact np an
  have h0:=(hU.wK).mz i;have K:elems (u.af.take i)+m.num<=elems u.af:=by
   have:=q8 u.af (i+1);rw[List.take_add_one,hm] at this;simp only[Option.toList_some,iE] at this;exact this
  have y:=m.oZ;have a:((cV u s f p).2=0\/(cV u s f p).2=1\/(cV u s f p).2=2)/\((cV u s f p).2=0->0<=(cV u s f p).1/\(cV u s f p).1<m.num):=by
   unfold cV;by_cases aL:0<m.size
   .obtain⟨e,he,_⟩:=bz aL;have F:((u.af[p.index.toNat]?).map bM.size).getD 0=m.size:=by rw[aX,Mc,hm];rfl
    rw[he];simp only[F];refine⟨Gm _ _ (pV _ _ _),λh=>?_⟩;have:=Iz _ _ h;unfold bM.num;omega
   .rw[cI aL];refine⟨.inl rfl,λ_=>⟨Int.le_refl _,?_⟩⟩;simp only[];omega
  split
  .rename_i bi;exact⟨a.1,λh=>absurd h bi⟩
  .rename_i heq;refine⟨.inl rfl,λ_=>?_⟩;have:=a.2 ad;simp only[O];omega
theorem qg{α:Type}{l:List α}{g:α->α}{x:α}(h:x∈l.modify i g):x∈l\/∃y,l[i]?=some y/\x=g y:=by
 obtain⟨k,aj⟩:=List.getElem?_of_mem h;rw[List.getElem?_modify] at aj;split at aj
 .rename_i heq;subst heq
  cases bb:l[i]? with
  | none=>rw[bb] at aj;cases aj
  | some y=>
   rw[bb] at aj;exact .inr ⟨y,rfl,by simpa using aj.symm⟩
 .exact .inl (LN (by simpa using aj))
theorem aW.mono(h:aW u D s)(hD:D<=o):aW u o s:=
 ⟨h.vk,λt ht=>⟨by have:=(h.fB t ht).1;omega,(h.fB t ht).2⟩,h.dv,h.mJ,h.table,λi x hx=>(h.holds i x hx).mono (LK _) hD,h.fault⟩
theorem aW.pW(h:aW u D s)(he:0<=e/\e<=4):aW u D {s with fault:=e}:=
 ⟨h.vk,h.fB,h.dv,h.mJ,h.table,h.holds,he⟩
theorem aW.threads(h:aW u D s)(g:List al->List al)(aR:∀fs,s.threads[t.toNat]?=some fs->(g fs).length<=o+1/\∀f∈g fs,cf u f)(hD:D<=o) :
  aW u o {s with threads:=s.threads.modify t.toNat g}:=by
 have hl:(s.threads.modify t.toNat g).length=s.threads.length:=List.length_modify ..;refine⟨by show 1<=(s.threads.modify t.toNat g).length/\_<=32;rw[hl];exact h.vk,λx hx=>?_,h.dv,h.mJ,h.table,λi x hx=>?_,h.fault⟩
 .rcases qg hx with hx|⟨y,bb,rfl⟩
  .exact⟨by have:=(h.fB x hx).1;omega,(h.fB x hx).2⟩
  .exact aR y bb
 .show j6 u (s.threads.modify t.toNat g).length o i x
  rw[hl];exact(h.holds i x hx).mono (LK _) hD
theorem g4(h:aW u D s)(ht:ey s t=some f)(J:cf u S):aW u D (bt s t S):=by
 obtain⟨_,_,fs,bK⟩:=jR ht;refine h.threads _ (λgs bB=>?_) (LK _);rw[bK] at bB;injection bB with bB;subst bB;have:=h.fB _ (LN bK);simp only[List.dropLast_concat,LM,LX] at this ⊢;refine⟨this.1,λx hx=>?_⟩;rcases LU.1 hx with hx|hx
 .exact this.2 x (by simp[hx])
 .have:x=S:=by simpa using hx
  subst this;exact J
theorem GC(h:aW u D s):aW u D (uA s t):=by
 refine h.threads _ (λgs bB=>?_) (LK _);have:=h.fB _ (LN bB);refine⟨by rw[List.length_dropLast];omega,λx hx=>this.2 x (List.mem_of_mem_take (by rw[List.dropLast_eq_take] at hx;exact hx))⟩
theorem Fg(h:aW u D s)(J:cf u S):aW u (D+1) (qv s t S):=by
 refine h.threads _ (λgs bB=>?_) ad;have:=h.fB _ (LN bB);refine⟨by simp;omega,λx hx=>?_⟩;rcases LU.1 hx with hx|hx
 .exact this.2 x hx
 .have:x=S:=by simpa using hx
  subst this;exact J
theorem pZ(hF:cf u f)(hp:u.procs[f.proc.toNat]?=some p){k:Int}(h0:0<=k)(ac:k<p.code.length):cf u {f with pc:=k}:=by
 obtain⟨q,bK,_,ap,aV⟩:=hF.ex;rw[hp] at bK;injection bK with bK;subst bK;exact⟨hF.proc,h0,⟨_,hp,ac,ap,aV⟩,hF.fits,hF.an⟩
theorem wh(hF:cf u f)(hl:is.length=f.ints.length)(J:∀v∈is,Fits v):cf u {f with ints:=is}:=by
 obtain⟨q,bK,ac,ap,aV⟩:=hF.ex;exact⟨hF.proc,hF.pc,⟨q,bK,ac,by show (is.length:Int)=_;rw[hl];exact ap,aV⟩,J,hF.an⟩
theorem qa(hS:aW u D s)(hF:cf u f){p:cM}(hp:u.procs[f.proc.toNat]?=some p):∀(es:List VE),(∀e∈es,gw (bx u) p.locals e)->
  ((cR s.globals f.ints es).2=0\/(cR s.globals f.ints es).2=1)/\((cR s.globals f.ints es).2=0->(cR s.globals f.ints es).1.length=es.length)/\∀v∈(cR s.globals f.ints es).1,Fits v
 | [],_=>⟨.inl rfl,λ_=>rfl,λv h=>by simp[cR] at h⟩
 | e::es,h=>by
  obtain⟨ac,ap,aV⟩:=qa hS hF hp es λx hx=>h x (by simp[hx]);have he:=x2 hS hF hp (h e (by simp));have a:=pV s.globals f.ints e;unfold cR;split
  .rename_i bi;exact⟨a,λh=>absurd h bi,λv bE=>by simp at bE⟩
  .split
   .rename_i bi;exact⟨ac,λh=>absurd h bi,λv bE=>by simp at bE⟩
   .rename_i heq;refine⟨.inl rfl,λ_=>by simp[ap ad],λv bE=>?_⟩;rcases L5.1 bE with rfl|bE
    .exact he.2.2
    .exact aV v bE
theorem nC(hU:da u)(hF:cf u f){nl nk:Int}(aj:nk<=f.an.length):∀(ps:List bU),(∀p∈ps,c4 (bx u) nl nk p)->
  ((b1 u s f ps).2=0\/(b1 u s f ps).2=1\/(b1 u s f ps).2=2)/\((b1 u s f ps).2=0->(b1 u s f ps).1.length=ps.length)/\∀v∈(b1 u s f ps).1,0<=v/\v<elems u.af
 | [],_=>⟨.inl rfl,λ_=>rfl,λv h=>by simp[b1] at h⟩
 | p::ps,h=>by
  obtain⟨ac,ap,aV⟩:=nC hU hF aj ps λx hx=>h x (by simp[hx]);have he:=jB (s:=s) hU hF aj (h p (by simp));unfold b1;split
  .rename_i bi;exact⟨he.1,λh=>absurd h bi,λv bE=>by simp at bE⟩
  .rename_i a;split
   .rename_i bi;exact⟨ac,λh=>absurd h bi,λv bE=>by simp at bE⟩
   .rename_i heq;refine⟨.inl rfl,λ_=>by simp[ap ad],λv bE=>?_⟩;rcases L5.1 bE with rfl|bE
    .exact he.2 ad
    .exact aV v bE
theorem rK(hU:da u){k:Int}{ls:List Int}{sg:Int×Int}(h0:0<=k)(hs:(bx u).sig[k.toNat]?=some sg)(aX:(is.length:Int)=sg.1)(hl:(ls.length:Int)=sg.2)
  (J:∀v∈is,Fits v) (aj:∀v∈ls,0<=v/\v<elems u.af):cf u (di u k is ls):=by
 have a:(u.procs.map λp=>(p.ints,p.an))[k.toNat]?=some sg:=hs;rw[List.getElem?_map] at a
 cases hp:u.procs[k.toNat]? with
 | none=>rw[hp] at a;cases a
 | some p=>
  rw[hp] at a;injection a with a;subst a;simp only[] at aX hl;have bg:=hU.procs p (LN hp);obtain⟨c,hc,_⟩:=bg.code;have aJ:fb u k=p.locals.toNat:=by unfold fb;rw[hp];rfl
  have ac:=bg.ints;refine⟨h0,Int.le_refl _,⟨p,hp,?_,?_,hl⟩,λv bE=>?_,aj⟩
  .show (0:Int)<(p.code.length:Int)
   rw[hc];simp
   try omega
  .show ((is++List.replicate (fb u k - is.length) 0).length:Int)=p.locals
   rw[aJ];simp;omega
  .rcases LU.1 bE with bE|bE
   .exact J v bE
   .rw[(List.mem_replicate.1 bE).2];exact iz
theorem Gv(hF:cf u f)(hp:u.procs[f.proc.toNat]?=some p)(h:f.pc+1<p.code.length):cf u (next f):=
 pZ hF hp (ay hF.pc) h
theorem uQ{l:List Int}{v:Int}(h:∀x∈l,Fits x)(bE:Fits v):∀x∈l.set i v,Fits x:=by
 intro x hx;rcases List.mem_or_eq_of_mem_set hx with hx|rfl
 .exact h x hx
 .exact bE
theorem x4{T:List cx}(aj:k<T.length):T[k]?=some (j4 T k):=by
 unfold j4;rw[Mc,List.getElem?_eq_getElem aj];rfl
theorem wE(hS:aW u D s)(h0:0<=e)(ht:0<=t/\t<s.threads.length)(cg:free u.af s.table e t=true):
  ∀i h,(s.table.set e.toNat ⟨t+1,(j4 s.table e).depth+1⟩)[i]?=some h->j6 u s.threads.length (D+1) i h:=by
 intro i h aX;rw[List.getElem?_set] at aX;split at aX
 .rename_i heq;subst heq;split at aX
  .rename_i an;injection aX with aX;subst aX;have aR:=x4 (T:=s.table) an;rw[show ((e.toNat:Nat):Int)=e by omega] at aR;have bn:=hS.holds _ _ aR;refine⟨⟨by show 0<=t+1;omega,by show t+1<=_;omega⟩,⟨by have:=bn.depth.1;show 0<=_+1;omega,by have:=bn.depth.2;show _+1<=((D+1:Nat):Int);omega⟩,?_,λh=>?_⟩
   .have:=bn.depth.1;show t+1=0↔(j4 s.table e).depth+1=0
    omega
   .have E:1<(j4 s.table e).depth+1:=h;rw[show ((e.toNat:Nat):Int)=e by omega];unfold free at cg;simp only[LY,Bool.or_eq_true,beq_iff_eq,Ml] at cg;rcases cg.2 with ap|ap
    .have:=bn.EG.1 ap;omega
    .exact ap.2
  .cases aX
 .exact(hS.holds i h aX).mono (LK _) ad
theorem tw(hS:aW u D s)(ah:heldBy u.af s.table e t=true):
  ∀i h,(s.table.set e.toNat (down (j4 s.table e)))[i]?=some h->j6 u s.threads.length D i h:=by
 intro i h aX;unfold heldBy at ah;simp only[LY,beq_iff_eq,Ml] at ah;rw[List.getElem?_set] at aX;split at aX
 .rename_i heq;subst heq;split at aX
  .rename_i an;injection aX with aX;subst aX;have h0:=(eC.1 ah.1.1).1;have aR:=x4 (T:=s.table) an;rw[show ((e.toNat:Nat):Int)=e by omega] at aR;have bn:=hS.holds _ _ aR;have hd:(j4 s.table e).depth≠0:=λh=>by have:=bn.EG.2 h;omega
   have:=bn.depth;have ao:=bn.owner;unfold down;refine⟨?_,⟨by show 0<=_ - 1;omega,by show _ - 1<=_;omega⟩,?_,λh=>bn.re (by have E:1<(j4 s.table e).depth - 1:=h;omega)⟩
   .simp only[];split<;>omega
   .simp only[];split<;>omega
  .cases aX
 .exact hS.holds i h aX
theorem oC(a b:Int)(m:Bool)(aZ:0<=a/\a<=4)(O:0<=b/\b<=4):0<=cc a b m/\cc a b m<=4:=by
 unfold cc
 repeat' split
 all_goals omega
theorem pL(a b:Int)(m:Bool)(h:cc a b m=0):a=0/\b=0/\m=false:=by
 unfold cc at h;by_cases aZ:a=0
 .by_cases O:b=0
  .cases m
   .exact⟨aZ,O,rfl⟩
   .simp[aZ,O] at h
  .simp[aZ,O] at h
 .simp[aZ] at h
theorem uW(hU:da u)(hS:aW u D s):aW u (D+1) (cb u s t).1:=by
 unfold cb
 cases ht:ey s t with
 | none=>exact hS.mono ad
 | some f=>
  obtain⟨hF,dl,cq⟩:=hS.top ht;obtain⟨p,x,hp,bg,hx,len,hlen,aX,c3⟩:=p9 hU hF;have b:ek u s t=some x:=by unfold ek;rw[ht];simp[hp,hx]
  rw[b];simp only[];obtain⟨q,bK,_,c9,bE⟩:=hF.ex;have R:p=q:=by rw[hp] at bK;injection bK
  subst R;have ao:aW u (D+1) s:=hS.mono ad;have hN:x.op≠8->cf u (next f):=λh=>Gv hF hp (c3 h);unfold b5;rcases aX with⟨ac,⟨e,he,bn⟩,ap,aV,bz⟩|⟨ac,aR,sg,ap,aV,bz,cI,bM,j⟩|⟨ac,aR,ap⟩|⟨ac,aR,⟨e,he,bn⟩,ap,aV⟩|⟨ac,aR,ap,aV⟩|⟨ac,aR⟩
  ·
   have ar:=x2 hS hF hp bn;have a:=pV s.globals f.ints e;rw[if_pos (.inl ac),he];simp only[Option.getD_some];split
   .exact ao.pW ad
   .rw[if_neg ad]
    cases cl:x.dv with
    | true=>
     simp only[if_true];have:=g4 ao ht (hN ad)
     exact⟨this.vk,this.fB,by show (s.globals.set _ _).length=_;rw[List.length_set];exact hS.dv,uQ hS.mJ ar.2.2,this.table,this.holds,this.fault⟩
    | false=>
     simp only[Mm,if_false];exact g4 ao ht (wh (hN ad) (List.length_set ..) (uQ hF.fits ar.2.2))
  ·
   have hI:=qa hS hF hp x.ints bM;have bD:=nC (s:=s) hU hF ad x.places j;rw[if_neg ad,if_pos ac];simp only[];by_cases bi:cc (cR s.globals f.ints x.ints).2 (b1 u s f x.places).2 (decide (x.op=3/\32<=s.threads.length))≠0
   .rw[if_pos bi];exact ao.pW (oC _ _ _ ad ad)
   .rw[if_neg bi];obtain⟨aZ,O,hm⟩:=pL _ _ _ (Classical.not_not.1 bi);have cg:=rK hU (k:=x.target) ap aV (by rw[hI.2.1 aZ];exact bz) (by rw[bD.2.1 O];exact cI) hI.2.2 bD.2.2;have hT:=g4 ao ht (hN ad);by_cases l:x.op=3
    .rw[if_pos l];have aE:s.threads.length<32:=by
      simp only[decide_eq_false_iff_not,not_and] at hm;have:=hm l;omega
     have hl:(bt s t (next f)).threads.length=s.threads.length:=List.length_modify ..;refine⟨?_,λy bb=>?_,hT.dv,hT.mJ,hT.table,λi y bb=>?_,hT.fault⟩
     .simp only[LM,LX,hl];omega
     .rcases LU.1 bb with bb|bb
      .exact hT.fB y bb
      .have:y=[di u x.target (cR s.globals f.ints x.ints).1 (b1 u s f x.places).1]:=by simpa using bb
       subst this;refine⟨by simp,λz aL=>?_⟩;have:z=di u x.target (cR s.globals f.ints x.ints).1 (b1 u s f x.places).1:=by simpa using aL
       subst this;exact cg
     .refine(hT.holds i y bb).mono ?_ (LK _);simp only[LM];omega
    .rw[if_neg l];exact Fg (g4 hS ht (hN ad)) cg
  ·
   have aw:=jB (s:=s) hU hF ad ap;rw[if_neg ad,if_neg ad,if_pos ac];simp only[];split
   .refine ao.pW ?_;rcases aw.1 with h|h|h<;>omega
   .rename_i heq;have a5:=aw.2 ad;have hT:=g4 ao ht (hN ad);have hl:(bt s t (next f)).threads.length=s.threads.length:=List.length_modify ..;split
    .split
     .rename_i cg;refine⟨hT.vk,hT.fB,hT.dv,hT.mJ,by show (fL _ _ _ _).length=_;rw[fq];exact hS.table,λi y bb=>?_,hT.fault⟩;show j6 u (bt s t (next f)).threads.length (D+1) i y
      rw[hl];refine wE hS a5.1 ⟨dl,cq⟩ cg i y ?_;have d:(fL u.af s.table (bH u s f x.place).1 t)[i]?=some y:=bb;unfold fL at d;rw[if_pos cg] at d;exact d
     .exact ao
    .split
     .rename_i ah;refine⟨hT.vk,hT.fB,hT.dv,hT.mJ,by show (c5 _ _ _ _).length=_;rw[fj];exact hS.table,λi y bb=>?_,hT.fault⟩;show j6 u (bt s t (next f)).threads.length (D+1) i y
      rw[hl];refine(tw hS ah i y ?_).mono (LK _) ad;have d:(c5 u.af s.table (bH u s f x.place).1 t)[i]?=some y:=bb;unfold c5 at d;rw[if_pos ah] at d;exact d
     .exact ao.pW ad
  ·
   have a:=pV s.globals f.ints e;rw[if_pos (.inr ac),he];simp only[Option.getD_some];split
   .exact ao.pW ad
   .try rw[if_pos ac]
    refine g4 ao ht ?_;split
    .exact pZ hF hp ap (by rw[hlen];omega)
    .exact hN ad
  .rw[if_neg ad,if_neg ad,if_neg ad,if_pos ac];exact g4 ao ht (pZ hF hp ap (by rw[hlen];omega))
  .rw[if_neg ad,if_neg ad,if_neg ad,if_neg ad];exact GC ao
theorem oX(hU:da u):aW u 0 (dT u):=by
 obtain⟨p,h0,hp,aX,hl⟩:=hU.main;have J:cf u (di u u.main [] []):=by
  refine rK hU h0 (sg:=(0,0)) ?_ rfl rfl (λv bE=>by simp at bE) (λv bE=>by simp at bE);show (u.procs.map λp=>(p.ints,p.an))[u.main.toNat]?=_
  rw[List.getElem?_map,hp];simp[aX,hl]
 refine⟨by show 1<=[[di u u.main [] []]].length/\_;simp[dT],λt ht=>?_,rfl,λv bE=>?_,by simp[dT],λi h aX=>?_,by simp[dT]⟩
 .have:t=[di u u.main [] []]:=by simpa[dT] using ht
  subst this;refine⟨by simp,λx hx=>?_⟩;have:x=di u u.main [] []:=by simpa using hx
  subst this;exact J
 .have:=hU.globals v bE;unfold Fits;omega
 .have G:(List.replicate (own u.af).length (⟨0,0⟩:cx))[i]?=some h:=aX;rw[List.getElem?_replicate] at G;split at G
  .injection G with G;subst G;exact⟨⟨by simp,by simp⟩,⟨by simp,by simp⟩,by simp,λh=>by simp at h⟩
  .cases G
end
def kU(x:aC):Prop:=(x.op=2\/x.op=3)\/(x.ints=[]/\x.places=[])
def FD(u:aA):Prop:=∀p∈u.procs,∀x∈p.code,kU x
theorem eR{y:aC}(h:∀x∈c,kU x)(bb:kU y):∀x∈c++[y],kU x:=λx hx=>by
 rcases LU.1 hx with hx|hx
 .exact h x hx
 .rw[Mi.1 hx];exact bb
theorem ke{b:Nat}{t:Int}(h:∀x∈c,kU x):∀x∈gm c b t,kU x:=λx hx=>by
 rcases qg hx with hx|⟨y,bb,rfl⟩
 .exact h x hx
 .exact h y (LN bb)
theorem dG:∀(b:ao) (l:List dQ) (n:Int) (c:List aC),(∀x∈c,kU x)->∀x∈(dN b l n c).1,kU x
 | .nil,_,_,c,h=>h
 | .set true s e rest,l,n,c,h=>dG rest _ _ _ (eR h (.inr ⟨rfl,rfl⟩))
 | .set false s e rest,l,n,c,h=>dG rest _ _ _ (eR h (.inr ⟨rfl,rfl⟩))
 | .call g s aW rest,l,n,c,h=>dG rest _ _ _ (eR h (.inl (by cases g<;>simp[lJ])))
 | .lock u r rest,l,n,c,h=>dG rest _ _ _ (eR h (.inr ⟨rfl,rfl⟩))
 | .ite e th el rest,l,n,c,h=>by
  have ac:=dG th l n _ (eR (y:=kA (bP l e) 0) h (.inr ⟨rfl,rfl⟩));simp only[dN];refine dG rest _ _ _ ?_;split
  .exact ke ac
  .exact ke (dG el l _ _ (ke (eR ac (.inr ⟨rfl,rfl⟩))))
 | .gI e th rest,l,n,c,h=>by
  have ac:=dG th l n _ (eR (y:=kA (bP l e) 0) h (.inr ⟨rfl,rfl⟩))
  exact dG rest _ _ _ (ke (eR ac (.inr ⟨rfl,rfl⟩)))
 | .ret rest,l,n,c,h=>dG rest _ _ _ (eR h (.inr ⟨rfl,rfl⟩))
theorem x8(p:bQ):FD (gB p):=λq bK=>by
 simp only[gB,Mf] at bK;obtain⟨f,_,rfl⟩:=bK;exact eR (dG _ _ _ _ (by simp)) (.inr ⟨rfl,rfl⟩)
structure tD(u:aA):Prop where
 ok:da u
 sh:FD u
theorem tD.Jx{u:aA}{f:al}(h:tD u)(hF:cf u f):∃cn x,u.procs[f.proc.toNat]?=some cn/\cn.code[f.pc.toNat]?=some x/\f.proc.toNat<u.procs.length/\f.pc.toNat<cn.code.length/\0<=f.proc/\0<=f.pc/\(∃len:Nat,cn.code.length=len+1/\ie (bx u) cn.locals cn.an len x)/\x.ints.length<=200/\x.places.length<=200/\(x.op≠8->f.pc+1<cn.code.length)/\qu (bx u) cn:=by
 obtain⟨cn,x,hp,bg,hx,len,hl,aX,hn⟩:=p9 h.ok hF;have ac:=(List.getElem?_eq_some_iff.1 hp).1;have ap:=(List.getElem?_eq_some_iff.1 hx).1;have hlen:x.ints.length<=200/\x.places.length<=200:=by
  rcases h.sh cn (LN hp) x (LN hx) with aV|⟨aV,bz⟩
  .rcases aX with⟨bz,_⟩|⟨_,_,sg,_,hs,cI,bM,_⟩|⟨bz,_⟩|⟨bz,_⟩|⟨bz,_⟩|⟨bz,_⟩
   .omega
   .simp only[bx,List.getElem?_map] at hs
    cases bK:u.procs[x.target.toNat]? with
    | none=>rw[bK] at hs;cases hs
    | some r=>
     rw[bK] at hs;simp only[Option.map_some,Mj] at hs;have a5:=h.ok.procs r (LN bK);have:=a5.ints;have:=a5.an;subst hs;simp only at cI bM;omega
   .omega
   .omega
   .omega
   .omega
  .rw[aV,bz];simp
 exact⟨cn,x,hp,hx,ac,ap,hF.proc,hF.pc,⟨len,hl,aX⟩,hlen.1,hlen.2,hn,bg⟩
section
attribute [local go_sem ↓] gE gF
theorem Gt(a b c d:Int)(w:World):(binOp .neq 79 (.agg #[a,b]) (.agg #[c,d])).run prog w=.ok (.bool (decide (a≠c\/b≠d))) w:=by
 exact Aj
theorem Gi(a b c d:Int)(w:World):(binOp .eql 79 (.agg #[a,b]) (.agg #[c,d])).run prog w=.ok (.bool (decide (a=c/\b=d))) w:=by
 exact Aj
def Jt(X:List bM)(T:List cx)(m th:Int)(i:Nat):Int:=if (own X)[i]?=some m/\(j4 T i).owner=th+1/\0<=th then (j4 T i).depth else 0
def HK(X:List bM)(T:List cx)(m th:Int):Nat->Int
 | 0=>0
 | k+1=>HK X T m th k+Jt X T m th k
def depth(X:List bM)(T:List cx)(m th:Int):Int:=HK X T m th (own X).length
end
def KP(l:List Int)(t:Int):Int:=if t<0 then -1 else l.getD t.toNat (-1)
def Ke(l:List Int):Nat->Int->Int
 | 0,t=>t
 | k+1,t=>if t<0 then t else Ke l k (KP l t)
section
variable {l:List Int}
def zr(l:List Int)(t:Int):Prop:=∀k,0<=Ke l k t
theorem zr.next{t:Int}(h:zr l t):zr l (KP l t):=λk=>by
 have h0:=h 0;have:=h (k+1);rw[Ke,if_neg (by exact Int.not_lt.2 h0)] at this;exact this
end
end Go.Proofs.YtpkfopfkdgkfkaaGreat
