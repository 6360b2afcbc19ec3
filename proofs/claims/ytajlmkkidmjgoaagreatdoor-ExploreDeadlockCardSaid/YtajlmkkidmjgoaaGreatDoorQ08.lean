/- Part 8 of the proof. No condition of its own. -/
import Derived.Test.YtajlmkkidmjgoaaGreatDoorQ05
import Derived.Test.YtajlmkkidmjgoaaGreatDoorQ06
import Derived.Test.YtajlmkkidmjgoaaGreatDoorQ07
namespace Go.Proofs.YtajlmkkidmjgoaaGreatDoor
open Go.RowKit Go.Proofs.Tryz
set_option maxRecDepth 1000000
set_option maxHeartbeats 25600000
set_option linter.unusedVariables false
variable{e:Int}{is:List Int}{B i k n:Nat}{x:VE}{ab w:World}{p:c7}
def Fw(w:World)(x:VE)(e:Ending)(ab:World):Prop:=∃c0 c1 c2 c3,e=.returned (.agg #[c0,c1,c2,c3])/\x.rep ab (λb=>w.heap.size<=b/\b<ab.heap.size) [c0,c1,c2,c3]/\Below w.heap.size w ab
theorem Fw.mk'{y:VE}{c0 c1 c2 c3:Value}(hx:x=y)(h:y.rep ab (λb=>w.heap.size<=b/\b<ab.heap.size) [c0,c1,c2,c3])(O:Below w.heap.size w ab):Fw w x (.returned (.agg #[c0,c1,c2,c3])) ab:=by
 subst hx;exact⟨_,_,_,_,rfl,h,O⟩
def E1(n:Int):VE:=if 0<=n then .num n else .bin 9 (.un 3 (.num (wrap64 (-(wrap64 (n+1)))))) (.num 1)
theorem lP.new{cs:List Value}(h:x.rep ab (λb=>B<=b/\b<ab.heap.size) cs)(cc:x.ok 0 0):lP ab none none 0 0 [] [] x cs:=
 ⟨cJ.bH _,cJ.bH _,cc,VE.aH (λ_ h=>h.2) _ _ h⟩
section
attribute [local go_sem ↓] gN gO
def Fits(n:Int):Prop:=-9223372036854775808<=n/\n<=9223372036854775807
theorem nJ(n:Int):Fits (wrap64 n):=by unfold Fits wrap64;omega
theorem lN(b:Bool):Fits (gQ b):=by cases b<;>(unfold Fits gQ;decide)
def VE.fit:VE->Prop
 | .num n=>Fits n
 | .gI _=>True
 | .loc _=>True
 | .iq _=>True
 | .un _ x=>x.fit
 | .bin _ x y=>x.fit/\y.fit
theorem xF(a b:Int)(I:Fits a):Fits (a.tmod b):=by
 have c:=Int.natAbs_tmod a b;have hle:a.natAbs % b.natAbs<=a.natAbs:=Nat.mod_le _ _;rw[<-c] at hle;unfold Fits at *;rcases Int.lt_trichotomy a 0 with h|h|h
 .have J:=Int.tmod_nonneg b (show 0<=-a by omega);rw[Int.neg_tmod] at J;generalize a.tmod b=r at *;omega
 .subst h;simp
 .have J:=Int.tmod_nonneg b (show 0<=a by omega);generalize a.tmod b=r at *;omega
theorem hE:Fits 0:=by unfold Fits;decide
theorem BE:Fits 1:=by unfold Fits;decide
theorem tR(op a b:Int)(I:Fits a):Fits (arith op a b).1:=by
 unfold arith
 repeat' split
 all_goals first|exact nJ _|exact lN _|exact xF _ _ I|exact hE
theorem qp{g:List Int}(aM:∀x∈g,Fits x)(k:Nat):Fits (g.getD k 0):=by
 rw[List.getD_eq_getElem?_getD]
 cases h:g[k]? with
 | none=>exact hE
 | some v=>exact aM v (Ia h)
theorem v7{g l:List Int}(aM:∀x∈g,Fits x)(hl:∀x∈l,Fits x):∀e:VE,e.fit->Fits (ev g l e).1
 | .num _,h=>h
 | .gI _,_=>hE
 | .loc _,_=>qp hl _
 | .iq _,_=>qp aM _
 | .un op x,_=>by
  rw[ev]
  repeat' split
  all_goals first|exact hE|exact nJ _|exact lN _
 | .bin op x y,h=>by
  rw[ev]
  repeat' split
  all_goals first|exact hE|exact BE|exact lN _|exact tR _ _ _ (v7 aM hl x h.1)
structure xS(g l:List Int)(e:VE):Prop where
 fg:∀x∈g,Fits x
 fl:∀x∈l,Fits x
 fe:e.fit
end
def idx(ms:Int)(r:Int×Int):Int×Int:=if r.2≠0 then (0,r.2) else if r.1<0\/ms<=r.1 then (0,2) else (r.1,0)
structure DB(w:World)(MA:IP)(mn:Nat)(X:List bJ)(G L:IP)(ng nl:Nat)(g l:List Int)(e:VE)(i:Nat)(m:bJ)(b o:Nat)(c0 c1 c2 c3:Value):Prop where
 ev:lP w G L ng nl g l e [c0,c1,c2,c3]
 ms:cJ (EF iM) 3 w w.heap.size MA mn X
 i1:i<mn
 hm:X[i]?=some m
 bl:b<w.heap.size
 e0:w.cell? ⟨b,o,none⟩=some c0
 e1:w.cell? ⟨b,o+1,none⟩=some c1
 e2:w.cell? ⟨b,o+2,none⟩=some c2
 e3:w.cell? ⟨b,o+3,none⟩=some c3
theorem cJ.GM{A:IP}{l:List bJ}(h:cJ (EF iM) 3 w B A n l)(ap:k<n):
  ∃b o m,A=some ⟨b,o,none⟩/\b<B/\l[k]?=some m/\w.cell? ⟨b,o+k*3,none⟩=some (.string m.name)/\w.cell? ⟨b,o+k*3+1,none⟩=some (.bool m.re)/\w.cell? ⟨b,o+k*3+2,none⟩=some (.int .i64 m.size):=by
 obtain⟨b,o,x,bj,O,hx,_,hc⟩:=h.FN ap;exact⟨b,o,x,bj,O,hx,hc 0 _ rfl,hc 1 _ rfl,hc 2 _ rfl⟩
theorem wN(w:World)(MA:IP)(mn mc:Nat)(X:List bJ)(G L:IP)(ng nl cg cl:Nat)(g l:List Int)(e:VE)(i:Nat)(m:bJ)(b o pc:Nat)(c0 c1 c2 c3:Value)
  (h:DB w MA mn X G L ng nl g l e i m b o c0 c1 c2 c3) :
  Calls prog 109 #[.agg #[.bool false,.int .i64 i,.slice (some ⟨b,o,none⟩) 1 pc],.slice MA mn mc,.slice G ng cg,.slice L nl cl] w (jV w (idx m.size (ev g l e))):=by
 have aw:Ext w (w.alloc (.cells #[.bool false,.int .i64 i,.slice (some ⟨b,o,none⟩) 1 pc] 130)):=IK.alloc _;have a:an (w.alloc (.cells #[.bool false,.int .i64 i,.slice (some ⟨b,o,none⟩) 1 pc] 130)) w.heap.size 130 #[.bool false,.int .i64 i,.slice (some ⟨b,o,none⟩) 1 pc]:=IL;obtain⟨V,I,c7,hm,T,e0,e1,e2,e3⟩:=h;obtain⟨hn,bE,b0,rfl,cd,bd,f0,f1,f2⟩:=I.GM c7;have S:b0=m:=by rw[hm] at bd;injection bd with h;exact h.symm
 subst S;have q1:decide ((i:Int)<0)=false:=by simp
 have dq:decide (i>=mn)=false:=by simp;omega
 have c:decide (mn<=i)=false:=by simp;omega
 have dg:(0:Int)<=(i:Int):=ad;have c8:(i:Int)<(mn:Int):=ad;have aE:=ae (V.on (Fr.ext aw));clear hm bd V I;go_enter func109,ntmps109;go_wp2_with(fail);have di:=(aw.cell (j:=o) T (λh=>h)).trans e0;have cm:=(aw.cell (j:=o+1) T (λh=>h)).trans e1;generalize w.alloc (.cells #[.bool false,.int .i64 i,.slice (some ⟨b,o,none⟩) 1 pc] 130)=W at *;refine(oe e W G L ng nl cg cl g l _ _ _ _ aE.o).mono ?_;rintro r aO ⟨rfl,bo⟩;have ag:Ext w aO:=aw.trans (Fr.of bo);obtain⟨p0,aR,eA⟩:=(a.aj (Fr.of bo)).two;have fZ:=(ag.cell (j:=bE+i*3+2) cd (λh=>h)).trans f2;have bh:=ae ag;clear aw ag a e0 e1 e2 e3 f0 f1 f2 di cm bo;generalize ev g l e=r at *;obtain⟨v,f⟩:=r;by_cases aA:f=0
 case neg=>
  have cA:(f != 0)=true:=by simpa using aA
  have c6:=ae (show idx b0.size (v,f)=(0,f) by unfold idx;rw[if_pos aA]);clear aA;go_wp2
  go_ret2
  exact jV.mk' c6.o (Fr.ext bh.o)
 have cA:(f != 0)=false:=by simpa using aA
 by_cases bC:v<0
 .have dh:decide (v<0)=true:=by simpa using bC
  have c6:=ae (show idx b0.size (v,f)=(0,2) by unfold idx;rw[if_neg (by simpa using aA),if_pos (.inl bC)]);clear aA bC;go_wp2
  go_ret2
  exact jV.mk' c6.o (Fr.ext bh.o)
 have dh:decide (v<0)=false:=by simpa using bC
 by_cases u:b0.size<=v
 .have bU:decide (v>=b0.size)=true:=by simpa using u
  have c6:=ae (show idx b0.size (v,f)=(0,2) by unfold idx;rw[if_neg (by simpa using aA),if_pos (.inr u)]);clear aA bC u;go_wp2
  go_ret2
  exact jV.mk' c6.o (Fr.ext bh.o)
 .have bU:decide (v>=b0.size)=false:=by simpa using u
  have c6:=ae (show idx b0.size (v,f)=(v,0) by unfold idx;rw[if_neg (by simpa using aA),if_neg ad]);clear aA bC u;go_wp2
  go_ret2
  exact jV.mk' c6.o (Fr.ext bh.o)
theorem tu(w:World)(i:Int)(A:IP)(pc:Nat)(b:Bool)(m g l:Value):Calls prog 109 #[.agg #[.bool b,.int .i64 i,.slice A 0 pc],m,g,l] w (jV w (0,0)):=by
 go_enter func109,ntmps109;go_wp2
 go_ret2
 exact jV.mk' rfl ((Below.refl _ _).alloc (Hx _) _)
def dt(s:ah)(t:Int):Option ao:=if s.fault≠0\/t<0 then none else (s.threads[t.toNat]?).bind List.getLast?
def dx(u:ax)(s:ah)(t:Int):Option az:=(dt s t).bind λf=>(u.procs[f.proc.toNat]?).bind λp=>p.code[f.pc.toNat]?
def cF(u:ax)(s:ah)(f:ao)(p:bK):Int×Int:=
 match p.at_ with
 | none=>(0,0)
 | some e=>idx (((u.af[p.index.toNat]?).map bJ.size).getD 0) (ev s.globals f.ints e)
def bj(u:ax)(s:ah)(f:ao)(p:bK):Int×Int:=
 if p.param then (f.aw.getD p.index.toNat 0,0)
 else if (cF u s f p).2≠0 then (0,(cF u s f p).2) else (gm u.af p.index+(cF u s f p).1,0)
def AT(u:ax)(s:ah)(t:Int)(p:bK):Int×Int:=match dt s t with
 | none=>(0,0)
 | some f=>bj u s f p
def dn(g l:List Int):List VE->List Int×Int
 | []=>([],0)
 | e::es=>if (ev g l e).2≠0 then ([],(ev g l e).2) else if (dn g l es).2≠0 then ([],(dn g l es).2) else ((ev g l e).1::(dn g l es).1,0)
def cf(u:ax)(s:ah)(f:ao):List bK->List Int×Int
 | []=>([],0)
 | p::ps=>if (bj u s f p).2≠0 then ([],(bj u s f p).2) else if (cf u s f ps).2≠0 then ([],(cf u s f ps).2) else ((bj u s f p).1::(cf u s f ps).1,0)
def iY(u:ax)(k:Int):Nat:=(((u.procs[k.toNat]?).map c7.locals).getD 0).toNat
def dv(u:ax)(k:Int)(is ls:List Int):ao:=⟨k,0,is++List.replicate (iY u k - is.length) 0,ls⟩
def dO(u:ax):ah:=⟨u.globals,List.replicate (own u.af).length ⟨0,0⟩,[[dv u u.main [] []]],0⟩
def bf(s:ah)(t:Int)(f:ao):ah:={s with threads:=s.threads.modify t.toNat λfs=>fs.dropLast++[f]}
def pw(s:ah)(t:Int)(f:ao):ah:={s with threads:=s.threads.modify t.toNat λfs=>fs++[f]}
def sM(s:ah)(t:Int):ah:={s with threads:=s.threads.modify t.toNat List.dropLast}
def next(f:ao):ao:={f with pc:=f.pc+1}
def bS(a b:Int)(many:Bool):Int:=if a≠0 then a else if b≠0 then b else if many then 4 else 0
def cq(u:ax)(s:ah)(t:Int)(f:ao)(x:az):ah×Bool:=
 if x.op=1\/x.op=6 then
  let r:=ev s.globals f.ints (x.expr.getD (.num 0))
  if r.2≠0 then ({s with fault:=r.2},true)
  else if x.op=6 then (bf s t (if r.1=0 then {f with pc:=x.target} else next f),true)
  else if x.dw then ({bf s t (next f) with globals:=s.globals.set x.target.toNat r.1},true)
  else (bf s t {next f with ints:=f.ints.set x.target.toNat r.1},true)
 else if x.op=2\/x.op=3 then
  let a:=dn s.globals f.ints x.ints
  let b:=cf u s f x.places
  let e:=bS a.2 b.2 (decide (x.op=3/\32<=s.threads.length))
  if e≠0 then ({s with fault:=e},true)
  else if x.op=3 then ({bf s t (next f) with threads:=(bf s t (next f)).threads++[[dv u x.target a.1 b.1]]},true)
  else (pw (bf s t (next f)) t (dv u x.target a.1 b.1),true)
 else if x.op=4\/x.op=5 then
  let r:=bj u s f x.place
  if r.2≠0 then ({s with fault:=r.2},true)
  else if x.op=4 then (if free u.af s.table r.1 t then ({bf s t (next f) with table:=g9 u.af s.table r.1 t},true) else (s,false))
  else (if heldBy u.af s.table r.1 t then ({bf s t (next f) with table:=dE u.af s.table r.1 t},true) else ({s with fault:=3},true))
 else if x.op=7 then (bf s t {f with pc:=x.target},true)
 else (sM s t,true)
def bs(u:ax)(s:ah)(t:Int):ah×Bool:=match dt s t,dx u s t with
 | some f,some x=>cq u s t f x
 | _,_=>(s,false)
theorem n5:∀x:VE,x.lit->x.fit
 | .num n,h=>by
  have F:0<=n/\n<=9223372036854775807:=h;show Fits n
  unfold Fits;omega
 | .gI _,_=>trivial
 | .loc _,_=>trivial
 | .iq _,_=>trivial
 | .un _ x,h=>n5 x h
 | .bin _ x y,h=>⟨n5 x h.1,n5 y h.2⟩
structure bW(u:ax)(f:ao):Prop where
 proc:0<=f.proc
 pc:0<=f.pc
 ex:∃p,u.procs[f.proc.toNat]?=some p/\f.pc<p.code.length/\(f.ints.length:Int)=p.locals/\(f.aw.length:Int)=p.aw
 fits:∀v∈f.ints,Fits v
 aw:∀k∈f.aw,0<=k/\k<elems u.af
structure jz(u:ax)(n D:Nat)(i:Nat)(h:cQ):Prop where
 owner:0<=h.owner/\h.owner<=n
 depth:0<=h.depth/\h.depth<=D
 EV:h.owner=0↔h.depth=0
 re:1<h.depth->De u.af (bU u.af i)=true
structure aV(u:ax)(D:Nat)(s:ah):Prop where
 xE:1<=s.threads.length/\s.threads.length<=32
 fm:∀t∈s.threads,t.length<=D+1/\∀f∈t,bW u f
 dw:s.globals.length=u.globals.length
 l9:∀v∈s.globals,Fits v
 table:s.table.length=(own u.af).length
 holds:∀i h,s.table[i]?=some h->jz u s.threads.length D i h
 fault:0<=s.fault/\s.fault<=4
theorem jz.mono{u:ax}{a0 D j:Nat}{h:cQ}(aG:jz u n D i h)(hn:n<=a0)(hD:D<=j):jz u a0 j i h:=
 ⟨⟨aG.owner.1,by have:=aG.owner.2;omega⟩,⟨aG.depth.1,by have:=aG.depth.2;omega⟩,aG.EV,aG.re⟩
section
variable {u:ax} {D:Nat} {s:ah} {t:Int} {f:ao}
theorem jj(h:dt s t=some f):s.fault=0/\0<=t/\∃fs,s.threads[t.toNat]?=some (fs++[f]):=by
 unfold dt at h;split at h
 .cases h
 .rename_i hc;refine⟨ad,ad,?_⟩
  cases bp:s.threads[t.toNat]? with
  | none=>rw[bp] at h;cases h
  | some l=>
   rw[bp] at h;have F:l.getLast?=some f:=h;obtain⟨cA,rfl⟩:=List.getLast?_eq_some_iff.1 F;exact⟨cA,rfl⟩
theorem aV.top(hS:aV u D s)(h:dt s t=some f):bW u f/\0<=t/\t<s.threads.length:=by
 obtain⟨_,h0,fs,bp⟩:=jj h;have al:=(List.getElem?_eq_some_iff.1 bp).1;exact⟨(hS.fm _ (Ia bp)).2 f (by simp),h0,ad⟩
theorem oY(hU:cZ u)(hF:bW u f):∃p x,u.procs[f.proc.toNat]?=some p/\pv (bk u) p/\p.code[f.pc.toNat]?=some x/\∃len:Nat,p.code.length=len+1/\hf (bk u) p.locals p.aw len x/\(x.op≠8->f.pc+1<p.code.length):=by
 obtain⟨p,hp,cS,_,_⟩:=hF.ex;have U:=hU.procs p (Ia hp);obtain⟨c,hc,_,ap⟩:=U.code;have h0:=hF.pc;have hlen:p.code.length=c.length+1:=by rw[hc];simp
 have hx:p.code[f.pc.toNat]?=some (p.code[f.pc.toNat]'ad):=List.getElem?_eq_getElem _;refine⟨p,_,hp,U,hx,c.length,hlen,?_⟩;by_cases al:f.pc.toNat<c.length
 .have he:p.code[f.pc.toNat]'ad=c[f.pc.toNat]:=by
   simp only[hc];exact List.getElem_append_left al
  rw[he];exact⟨ap _ (List.getElem_mem _),λ_=>ad⟩
 .have he:p.code[f.pc.toNat]'ad=mR:=by
   simp only[hc];rw[List.getElem_append_right ad];simp
  rw[he];exact⟨.inr (.inr (.inr (.inr (.inr ⟨rfl,rfl⟩)))),λh=>absurd rfl h⟩
theorem v8(hS:aV u D s)(hF:bW u f)(hp:u.procs[f.proc.toNat]?=some p){e:VE}(he:fR (bk u) p.locals e):
  e.ok s.globals.length f.ints.length/\xS s.globals f.ints e/\Fits (ev s.globals f.ints e).1:=by
 obtain⟨q,bp,_,hl,_⟩:=hF.ex;rw[hp] at bp;injection bp with bp;subst bp;have ac:e.ok s.globals.length f.ints.length:=by
  rw[hS.dw];have:=he.1;rw[show p.locals.toNat=f.ints.length by omega] at this;exact this
 have i:=n5 e he.2;exact⟨ac,⟨hS.l9,hF.fits,i⟩,v7 hS.l9 hF.fits e i⟩
end
theorem cZ.Ej{u:ax}(h:cZ u):rY u.af:=⟨by have:=h.xm;omega,h.gh⟩
theorem AI(op a b:Int):(arith op a b).2=0\/(arith op a b).2=1:=by
 unfold arith
 repeat' split
 all_goals simp
theorem oP(g l:List Int):∀x:VE,(ev g l x).2=0\/(ev g l x).2=1
 | .num _=>.inl rfl
 | .gI _=>.inl rfl
 | .loc _=>.inl rfl
 | .iq _=>.inl rfl
 | .un op x=>by
  have aa:=oP g l x;unfold ev
  repeat' split
  all_goals first|exact aa|exact .inl rfl
 | .bin op x y=>by
  have i:=oP g l x;have c:=oP g l y;unfold ev
  repeat' split
  all_goals first|exact i|exact c|exact .inl rfl|exact AI _ _ _
theorem CT(m:Int)(r:Int×Int)(h:r.2=0\/r.2=1):(idx m r).2=0\/(idx m r).2=1\/(idx m r).2=2:=by
 unfold idx
 repeat' split
 all_goals simp
 all_goals omega
theorem EU(m:Int)(r:Int×Int)(h:(idx m r).2=0):0<=(idx m r).1/\(idx m r).1<m:=by
 unfold idx at h ⊢;split at h
 .rename_i ac;exact absurd h ac
 .split at h
  .simp at h
  .rename_i ac J;rw[if_neg ac,if_neg J];simp only[];omega
section
variable {u:ax} {D j:Nat} {s:ah} {t:Int} {f S:ao}
theorem iP(hU:cZ u)(hF:bW u f){p:bK}{nl nk:Int}(ap:nk<=f.aw.length)(hp:cP (bk u) nl nk p):
  ((bj u s f p).2=0\/(bj u s f p).2=1\/(bj u s f p).2=2)/\((bj u s f p).2=0->0<=(bj u s f p).1/\(bj u s f p).1<elems u.af):=by
 unfold bj;rcases hp with⟨ac,J,aR,bv⟩|⟨ac,m,J,aR,bv,ct⟩
 .rw[if_pos ac];refine⟨.inl rfl,λ_=>?_⟩;have al:p.index.toNat<f.aw.length:=ad;have:f.aw.getD p.index.toNat 0=f.aw[p.index.toNat]:=by rw[List.getD_eq_getElem?_getD,List.getElem?_eq_getElem al];rfl
  simp only[this];exact hF.aw _ (List.getElem_mem _)
 .rw[if_neg (by simp[ac])];have hm:u.af[p.index.toNat]?=some m:=aR;have bT:=hU.gh m (Ia hm);obtain⟨i,ak⟩:=Ic J;rw[ak,Iw] at hm;have al:=(List.getElem?_eq_some_iff.1 hm).1;have O:gm u.af p.index=elems (u.af.take i):=by rw[ak];exact p9 al
  have h0:=(hU.Ej).q6 i;have K:elems (u.af.take i)+m.num<=elems u.af:=by
   have:=pX u.af (i+1);rw[List.take_add_one,hm] at this;simp only[Option.toList_some,hO] at this;exact this
  have z:=m.ry;have a:((cF u s f p).2=0\/(cF u s f p).2=1\/(cF u s f p).2=2)/\((cF u s f p).2=0->0<=(cF u s f p).1/\(cF u s f p).1<m.num):=by
   unfold cF;by_cases bi:0<m.size
   .obtain⟨e,he,_⟩:=bv bi;have I:((u.af[p.index.toNat]?).map bJ.size).getD 0=m.size:=by rw[ak,Iw,hm];rfl
    rw[he];simp only[I];refine⟨CT _ _ (oP _ _ _),λh=>?_⟩;have:=EU _ _ h;unfold bJ.num;omega
   .rw[ct bi];refine⟨.inl rfl,λ_=>⟨Int.le_refl _,?_⟩⟩;simp only[];omega
  split
  .rename_i aZ;exact⟨a.1,λh=>absurd h aZ⟩
  .rename_i heq;refine⟨.inl rfl,λ_=>?_⟩;have:=a.2 ad;simp only[O];omega
theorem o7{α:Type}{l:List α}{g:α->α}{x:α}(h:x∈l.modify i g):x∈l\/∃y,l[i]?=some y/\x=g y:=by
 obtain⟨k,ap⟩:=List.getElem?_of_mem h;rw[List.getElem?_modify] at ap;split at ap
 .rename_i heq;subst heq
  cases a4:l[i]? with
  | none=>rw[a4] at ap;cases ap
  | some y=>
   rw[a4] at ap;exact .inr ⟨y,rfl,by simpa using ap.symm⟩
 .exact .inl (Ia (by simpa using ap))
theorem aV.mono(h:aV u D s)(hD:D<=j):aV u j s:=
 ⟨h.xE,λt ht=>⟨by have:=(h.fm t ht).1;omega,(h.fm t ht).2⟩,h.dw,h.l9,h.table,λi x hx=>(h.holds i x hx).mono (Hx _) hD,h.fault⟩
theorem aV.oR(h:aV u D s)(he:0<=e/\e<=4):aV u D {s with fault:=e}:=
 ⟨h.xE,h.fm,h.dw,h.l9,h.table,h.holds,he⟩
theorem aV.threads(h:aV u D s)(g:List ao->List ao)(aM:∀fs,s.threads[t.toNat]?=some fs->(g fs).length<=j+1/\∀f∈g fs,bW u f)(hD:D<=j) :
  aV u j {s with threads:=s.threads.modify t.toNat g}:=by
 have hl:(s.threads.modify t.toNat g).length=s.threads.length:=List.length_modify ..;refine⟨by show 1<=(s.threads.modify t.toNat g).length/\_<=32;rw[hl];exact h.xE,λx hx=>?_,h.dw,h.l9,h.table,λi x hx=>?_,h.fault⟩
 .rcases o7 hx with hx|⟨y,a4,rfl⟩
  .exact⟨by have:=(h.fm x hx).1;omega,(h.fm x hx).2⟩
  .exact aM y a4
 .show jz u (s.threads.modify t.toNat g).length j i x
  rw[hl];exact(h.holds i x hx).mono (Hx _) hD
theorem gz(h:aV u D s)(ht:dt s t=some f)(aA:bW u S):aV u D (bf s t S):=by
 obtain⟨_,_,fs,bp⟩:=jj ht;refine h.threads _ (λgs bY=>?_) (Hx _);rw[bp] at bY;injection bY with bY;subst bY;have:=h.fm _ (Ia bp);simp only[List.dropLast_concat,Hz,Ik] at this ⊢;refine⟨this.1,λx hx=>?_⟩;rcases Ii.1 hx with hx|hx
 .exact this.2 x (by simp[hx])
 .have:x=S:=by simpa using hx
  subst this;exact aA
theorem Da(h:aV u D s):aV u D (sM s t):=by
 refine h.threads _ (λgs bY=>?_) (Hx _);have:=h.fm _ (Ia bY);refine⟨by rw[List.length_dropLast];omega,λx hx=>this.2 x (List.mem_of_mem_take (by rw[List.dropLast_eq_take] at hx;exact hx))⟩
theorem BR(h:aV u D s)(aA:bW u S):aV u (D+1) (pw s t S):=by
 refine h.threads _ (λgs bY=>?_) ad;have:=h.fm _ (Ia bY);refine⟨by simp;omega,λx hx=>?_⟩;rcases Ii.1 hx with hx|hx
 .exact this.2 x hx
 .have:x=S:=by simpa using hx
  subst this;exact aA
theorem oU(hF:bW u f)(hp:u.procs[f.proc.toNat]?=some p){k:Int}(h0:0<=k)(ac:k<p.code.length):bW u {f with pc:=k}:=by
 obtain⟨q,bp,_,J,aR⟩:=hF.ex;rw[hp] at bp;injection bp with bp;subst bp;exact⟨hF.proc,h0,⟨_,hp,ac,J,aR⟩,hF.fits,hF.aw⟩
theorem ud(hF:bW u f)(hl:is.length=f.ints.length)(aA:∀v∈is,Fits v):bW u {f with ints:=is}:=by
 obtain⟨q,bp,ac,J,aR⟩:=hF.ex;exact⟨hF.proc,hF.pc,⟨q,bp,ac,by show (is.length:Int)=_;rw[hl];exact J,aR⟩,aA,hF.aw⟩
theorem oZ(hS:aV u D s)(hF:bW u f){p:c7}(hp:u.procs[f.proc.toNat]?=some p):∀(es:List VE),(∀e∈es,fR (bk u) p.locals e)->
  ((dn s.globals f.ints es).2=0\/(dn s.globals f.ints es).2=1)/\((dn s.globals f.ints es).2=0->(dn s.globals f.ints es).1.length=es.length)/\∀v∈(dn s.globals f.ints es).1,Fits v
 | [],_=>⟨.inl rfl,λ_=>rfl,λv h=>by simp[dn] at h⟩
 | e::es,h=>by
  obtain⟨ac,J,aR⟩:=oZ hS hF hp es λx hx=>h x (by simp[hx]);have he:=v8 hS hF hp (h e (by simp));have a:=oP s.globals f.ints e;unfold dn;split
  .rename_i aZ;exact⟨a,λh=>absurd h aZ,λv bC=>by simp at bC⟩
  .split
   .rename_i aZ;exact⟨ac,λh=>absurd h aZ,λv bC=>by simp at bC⟩
   .rename_i heq;refine⟨.inl rfl,λ_=>by simp[J ad],λv bC=>?_⟩;rcases Iq.1 bC with rfl|bC
    .exact he.2.2
    .exact aR v bC
theorem mU(hU:cZ u)(hF:bW u f){nl nk:Int}(ap:nk<=f.aw.length):∀(ps:List bK),(∀p∈ps,cP (bk u) nl nk p)->
  ((cf u s f ps).2=0\/(cf u s f ps).2=1\/(cf u s f ps).2=2)/\((cf u s f ps).2=0->(cf u s f ps).1.length=ps.length)/\∀v∈(cf u s f ps).1,0<=v/\v<elems u.af
 | [],_=>⟨.inl rfl,λ_=>rfl,λv h=>by simp[cf] at h⟩
 | p::ps,h=>by
  obtain⟨ac,J,aR⟩:=mU hU hF ap ps λx hx=>h x (by simp[hx]);have he:=iP (s:=s) hU hF ap (h p (by simp));unfold cf;split
  .rename_i aZ;exact⟨he.1,λh=>absurd h aZ,λv bC=>by simp at bC⟩
  .rename_i a;split
   .rename_i aZ;exact⟨ac,λh=>absurd h aZ,λv bC=>by simp at bC⟩
   .rename_i heq;refine⟨.inl rfl,λ_=>by simp[J ad],λv bC=>?_⟩;rcases Iq.1 bC with rfl|bC
    .exact he.2 ad
    .exact aR v bC
theorem qn(hU:cZ u){k:Int}{ls:List Int}{sg:Int×Int}(h0:0<=k)(hs:(bk u).sig[k.toNat]?=some sg)(ak:(is.length:Int)=sg.1)(hl:(ls.length:Int)=sg.2)
  (aA:∀v∈is,Fits v) (ap:∀v∈ls,0<=v/\v<elems u.af):bW u (dv u k is ls):=by
 have a:(u.procs.map λp=>(p.ints,p.aw))[k.toNat]?=some sg:=hs;rw[List.getElem?_map] at a
 cases hp:u.procs[k.toNat]? with
 | none=>rw[hp] at a;cases a
 | some p=>
  rw[hp] at a;injection a with a;subst a;simp only[] at ak hl;have U:=hU.procs p (Ia hp);obtain⟨c,hc,_⟩:=U.code;have g:iY u k=p.locals.toNat:=by unfold iY;rw[hp];rfl
  have ac:=U.ints;refine⟨h0,Int.le_refl _,⟨p,hp,?_,?_,hl⟩,λv bC=>?_,ap⟩
  .show (0:Int)<(p.code.length:Int)
   rw[hc];simp
   try omega
  .show ((is++List.replicate (iY u k - is.length) 0).length:Int)=p.locals
   rw[g];simp;omega
  .rcases Ii.1 bC with bC|bC
   .exact aA v bC
   .rw[(List.mem_replicate.1 bC).2];exact hE
theorem C4(hF:bW u f)(hp:u.procs[f.proc.toNat]?=some p)(h:f.pc+1<p.code.length):bW u (next f):=
 oU hF hp (aC hF.pc) h
theorem s0{l:List Int}{v:Int}(h:∀x∈l,Fits x)(bC:Fits v):∀x∈l.set i v,Fits x:=by
 intro x hx;rcases List.mem_or_eq_of_mem_set hx with hx|rfl
 .exact h x hx
 .exact bC
theorem we{T:List cQ}(ap:k<T.length):T[k]?=some (iW T k):=by
 unfold iW;rw[Iw,List.getElem?_eq_getElem ap];rfl
theorem uw(hS:aV u D s)(h0:0<=e)(ht:0<=t/\t<s.threads.length)(a1:free u.af s.table e t=true):
  ∀i h,(s.table.set e.toNat ⟨t+1,(iW s.table e).depth+1⟩)[i]?=some h->jz u s.threads.length (D+1) i h:=by
 intro i h ak;rw[List.getElem?_set] at ak;split at ak
 .rename_i heq;subst heq;split at ak
  .rename_i al;injection ak with ak;subst ak;have aM:=we (T:=s.table) al;rw[show ((e.toNat:Nat):Int)=e by omega] at aM;have bu:=hS.holds _ _ aM;refine⟨⟨by show 0<=t+1;omega,by show t+1<=_;omega⟩,⟨by have:=bu.depth.1;show 0<=_+1;omega,by have:=bu.depth.2;show _+1<=((D+1:Nat):Int);omega⟩,?_,λh=>?_⟩
   .have:=bu.depth.1;show t+1=0↔(iW s.table e).depth+1=0
    omega
   .have F:1<(iW s.table e).depth+1:=h;rw[show ((e.toNat:Nat):Int)=e by omega];unfold free at a1;simp only[Il,Bool.or_eq_true,beq_iff_eq,IG] at a1;rcases a1.2 with J|J
    .have:=bu.EV.1 J;omega
    .exact J.2
  .cases ak
 .exact(hS.holds i h ak).mono (Hx _) ad
theorem rQ(hS:aV u D s)(aG:heldBy u.af s.table e t=true):
  ∀i h,(s.table.set e.toNat (down (iW s.table e)))[i]?=some h->jz u s.threads.length D i h:=by
 intro i h ak;unfold heldBy at aG;simp only[Il,beq_iff_eq,IG] at aG;rw[List.getElem?_set] at ak;split at ak
 .rename_i heq;subst heq;split at ak
  .rename_i al;injection ak with ak;subst ak;have h0:=(fE.1 aG.1.1).1;have aM:=we (T:=s.table) al;rw[show ((e.toNat:Nat):Int)=e by omega] at aM;have bu:=hS.holds _ _ aM;have hd:(iW s.table e).depth≠0:=λh=>by have:=bu.EV.2 h;omega
   have:=bu.depth;have I:=bu.owner;unfold down;refine⟨?_,⟨by show 0<=_ - 1;omega,by show _ - 1<=_;omega⟩,?_,λh=>bu.re (by have F:1<(iW s.table e).depth - 1:=h;omega)⟩
   .simp only[];split<;>omega
   .simp only[];split<;>omega
  .cases ak
 .exact hS.holds i h ak
theorem nO(a b:Int)(m:Bool)(I:0<=a/\a<=4)(O:0<=b/\b<=4):0<=bS a b m/\bS a b m<=4:=by
 unfold bS
 repeat' split
 all_goals omega
theorem oE(a b:Int)(m:Bool)(h:bS a b m=0):a=0/\b=0/\m=false:=by
 unfold bS at h;by_cases I:a=0
 .by_cases O:b=0
  .cases m
   .exact⟨I,O,rfl⟩
   .simp[I,O] at h
  .simp[I,O] at h
 .simp[I] at h
theorem B9(hU:cZ u)(hS:aV u D s):aV u (D+1) (bs u s t).1:=by
 unfold bs
 cases ht:dt s t with
 | none=>exact hS.mono ad
 | some f=>
  obtain⟨hF,cR,cn⟩:=hS.top ht;obtain⟨p,x,hp,U,hx,len,hlen,ak,bb⟩:=oY hU hF;have b:dx u s t=some x:=by unfold dx;rw[ht];simp[hp,hx]
  rw[b];simp only[];obtain⟨q,bp,_,cc,bz⟩:=hF.ex;have H:p=q:=by rw[hp] at bp;injection bp
  subst H;have aA:aV u (D+1) s:=hS.mono ad;have hN:x.op≠8->bW u (next f):=λh=>C4 hF hp (bb h);unfold cq;rcases ak with⟨ac,⟨e,he,bu⟩,J,aR,bv⟩|⟨ac,aM,sg,J,aR,bv,ct,Q,C⟩|⟨ac,aM,J⟩|⟨ac,aM,⟨e,he,bu⟩,J,aR⟩|⟨ac,aM,J,aR⟩|⟨ac,aM⟩
  ·
   have V:=v8 hS hF hp bu;have a:=oP s.globals f.ints e;rw[if_pos (.inl ac),he];simp only[Option.getD_some];split
   .exact aA.oR ad
   .rw[if_neg ad]
    cases cg:x.dw with
    | true=>
     simp only[if_true];have:=gz aA ht (hN ad)
     exact⟨this.xE,this.fm,by show (s.globals.set _ _).length=_;rw[List.length_set];exact hS.dw,s0 hS.l9 V.2.2,this.table,this.holds,this.fault⟩
    | false=>
     simp only[II,if_false];exact gz aA ht (ud (hN ad) (List.length_set ..) (s0 hF.fits V.2.2))
  ·
   have hI:=oZ hS hF hp x.ints Q;have br:=mU (s:=s) hU hF ad x.places C;rw[if_neg ad,if_pos ac];simp only[];by_cases aZ:bS (dn s.globals f.ints x.ints).2 (cf u s f x.places).2 (decide (x.op=3/\32<=s.threads.length))≠0
   .rw[if_pos aZ];exact aA.oR (nO _ _ _ ad ad)
   .rw[if_neg aZ];obtain⟨I,O,hm⟩:=oE _ _ _ (Classical.not_not.1 aZ);have a1:=qn hU (k:=x.target) J aR (by rw[hI.2.1 I];exact bv) (by rw[br.2.1 O];exact ct) hI.2.2 br.2.2;have a5:=gz aA ht (hN ad);by_cases v:x.op=3
    .rw[if_pos v];have n:s.threads.length<32:=by
      simp only[decide_eq_false_iff_not,not_and] at hm;have:=hm v;omega
     have hl:(bf s t (next f)).threads.length=s.threads.length:=List.length_modify ..;refine⟨?_,λy a4=>?_,a5.dw,a5.l9,a5.table,λi y a4=>?_,a5.fault⟩
     .simp only[Hz,Ik,hl];omega
     .rcases Ii.1 a4 with a4|a4
      .exact a5.fm y a4
      .have:y=[dv u x.target (dn s.globals f.ints x.ints).1 (cf u s f x.places).1]:=by simpa using a4
       subst this;refine⟨by simp,λz bi=>?_⟩;have:z=dv u x.target (dn s.globals f.ints x.ints).1 (cf u s f x.places).1:=by simpa using bi
       subst this;exact a1
     .refine(a5.holds i y a4).mono ?_ (Hx _);simp only[Hz];omega
    .rw[if_neg v];exact BR (gz hS ht (hN ad)) a1
  ·
   have aw:=iP (s:=s) hU hF ad J;rw[if_neg ad,if_neg ad,if_pos ac];simp only[];split
   .refine aA.oR ?_;rcases aw.1 with h|h|h<;>omega
   .rename_i heq;have aY:=aw.2 ad;have a5:=gz aA ht (hN ad);have hl:(bf s t (next f)).threads.length=s.threads.length:=List.length_modify ..;split
    .split
     .rename_i a1;refine⟨a5.xE,a5.fm,a5.dw,a5.l9,by show (g9 _ _ _ _).length=_;rw[hg];exact hS.table,λi y a4=>?_,a5.fault⟩;show jz u (bf s t (next f)).threads.length (D+1) i y
      rw[hl];refine uw hS aY.1 ⟨cR,cn⟩ a1 i y ?_;have d:(g9 u.af s.table (bj u s f x.place).1 t)[i]?=some y:=a4;unfold g9 at d;rw[if_pos a1] at d;exact d
     .exact aA
    .split
     .rename_i aG;refine⟨a5.xE,a5.fm,a5.dw,a5.l9,by show (dE _ _ _ _).length=_;rw[fX];exact hS.table,λi y a4=>?_,a5.fault⟩;show jz u (bf s t (next f)).threads.length (D+1) i y
      rw[hl];refine(rQ hS aG i y ?_).mono (Hx _) ad;have d:(dE u.af s.table (bj u s f x.place).1 t)[i]?=some y:=a4;unfold dE at d;rw[if_pos aG] at d;exact d
     .exact aA.oR ad
  ·
   have a:=oP s.globals f.ints e;rw[if_pos (.inr ac),he];simp only[Option.getD_some];split
   .exact aA.oR ad
   .try rw[if_pos ac]
    refine gz aA ht ?_;split
    .exact oU hF hp J (by rw[hlen];omega)
    .exact hN ad
  .rw[if_neg ad,if_neg ad,if_neg ad,if_pos ac];exact gz aA ht (oU hF hp J (by rw[hlen];omega))
  .rw[if_neg ad,if_neg ad,if_neg ad,if_neg ad];exact Da aA
theorem C2(hU:cZ u):aV u 0 (dO u):=by
 obtain⟨p,h0,hp,ak,hl⟩:=hU.main;have aA:bW u (dv u u.main [] []):=by
  refine qn hU h0 (sg:=(0,0)) ?_ rfl rfl (λv bC=>by simp at bC) (λv bC=>by simp at bC);show (u.procs.map λp=>(p.ints,p.aw))[u.main.toNat]?=_
  rw[List.getElem?_map,hp];simp[ak,hl]
 refine⟨by show 1<=[[dv u u.main [] []]].length/\_;simp[dO],λt ht=>?_,rfl,λv bC=>?_,by simp[dO],λi h ak=>?_,by simp[dO]⟩
 .have:t=[dv u u.main [] []]:=by simpa[dO] using ht
  subst this;refine⟨by simp,λx hx=>?_⟩;have:x=dv u u.main [] []:=by simpa using hx
  subst this;exact aA
 .have:=hU.globals v bC;unfold Fits;omega
 .have r:(List.replicate (own u.af).length (⟨0,0⟩:cQ))[i]?=some h:=ak;rw[List.getElem?_replicate] at r;split at r
  .injection r with r;subst r;exact⟨⟨by simp,by simp⟩,⟨by simp,by simp⟩,by simp,λh=>by simp at h⟩
  .cases r
end
end Go.Proofs.YtajlmkkidmjgoaaGreatDoor
