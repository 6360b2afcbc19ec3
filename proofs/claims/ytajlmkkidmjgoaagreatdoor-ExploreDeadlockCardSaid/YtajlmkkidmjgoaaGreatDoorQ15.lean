/- Part 15 of the proof. No condition of its own. -/
import Derived.Test.YtajlmkkidmjgoaaGreatDoorQ08
import Derived.Test.YtajlmkkidmjgoaaGreatDoorQ11
namespace Go.Proofs.YtajlmkkidmjgoaaGreatDoor
open Go.RowKit Go.Proofs.Tryz
set_option maxRecDepth 1000000
set_option maxHeartbeats 25600000
set_option linter.unusedVariables false
variable{G:Env}{e o:Int}{T V:IQ}{X:List bJ}{L c d j k n:Nat}{A:IP}{α:Type}{a ab b w:World}{f:aE}{p:bC}{r:eC}
structure fN(s:Nat)(w ab:World):Prop where
 os:ab.os=w.os
 tape:ab.tape=w.tape
 output:ab.output=w.output
 size:w.heap.size<=ab.heap.size
 block:∀k,k<w.heap.size->k≠s->ab.heap[k]?=w.heap[k]?
theorem fN.refl(s:Nat)(w:World):fN s w w:=⟨rfl,rfl,rfl,Hx _,λ_ _ _=>rfl⟩
theorem fN.trans{s:Nat}{a b c:World}(h:fN s a b)(k:fN s b c):fN s a c:=
 ⟨k.os.trans h.os,k.tape.trans h.tape,k.output.trans h.output,Ir h.size k.size,λi ak hn=>(k.block i (Hy ak h.size) hn).trans (h.block i ak hn)⟩
theorem fN.of{s:Nat}(h:Below a.heap.size a b):fN s a b:=⟨h.os,h.tape,h.output,h.size,λk ap _=>h.block k ap⟩
theorem fN.below{s:Nat}(h:fN s a b)(hs:s<=a.heap.size):Below s a b:=⟨h.os,h.tape,h.output,h.size,λk ap=>h.block k ad ad⟩
theorem fN.setCell{s:Nat}{a b:World}(h:fN s a b)(j:Nat)(v:Value):fN s a (b.setCell ⟨s,j,none⟩ v):=by
 refine⟨h.os,h.tape,h.output,by simpa using h.size,λk ap hn=>?_⟩;rw[Below.heap_setCell _ _ _ _ hn];exact h.block k ap hn
theorem fN.drew{s:Nat}{a b:World}(h:fN s a b):fN s a b.drew:=⟨h.os,h.tape,h.output,h.size,h.block⟩
theorem fN.cell{s:Nat}{a b:World}(h:fN s a b){k j:Nat}(ap:k<a.heap.size)(hn:k≠s):b.cell? ⟨k,j,none⟩=a.cell? ⟨k,j,none⟩:=World.cell?_of_block (h.block k ap hn)
structure b1(w:World)(s:Nat)(A:IP)(n c:Nat)(l:List Int):Prop where
 lt:s<w.heap.size
 c0:w.cell? ⟨s,0,none⟩=some (.slice A n c)
 c1:∃i:Nat,i<=n/\w.cell? ⟨s,1,none⟩=some (.int .i64 i)
 fz:w.frozen? ⟨s,1,none⟩=false
 ls:cJ (EF cD) 1 w s A n l
 hn:n<=1000
theorem b1.on{s:Nat}{l:List Int}(h:b1 w s A n c l)(O:Below w.heap.size w ab):b1 ab s A n c l:=by
 have al:=h.lt;refine⟨Hy h.lt O.size,?_,?_,?_,h.ls.eQ (O.mono ad),h.hn⟩
 .exact(O.cell (p:=⟨s,0,none⟩) al).trans h.c0
 .obtain⟨i,ak,hc⟩:=h.c1;exact⟨i,ak,(O.cell (p:=⟨s,1,none⟩) al).trans hc⟩
 .exact(O.frozen (p:=⟨s,1,none⟩) al).trans h.fz
def vx(w:World)(s:Nat)(A:IP)(n c:Nat)(l:List Int)(m:Int)(e:Ending)(ab:World):Prop:=
 ∃k,e=.returned (.int .i64 k)/\0<=k/\k<m/\b1 ab s A n c l/\fN s w ab
theorem aX(w:World)(s:Nat)(A:IP)(n c:Nat)(l:List Int)(m:Int)(h:b1 w s A n c l)(hm:0<m)(az:m<=4611686018427387904) :
  Calls prog 30 #[.pointer (some ⟨s,0,none⟩),.int .i64 m] w (vx w s A n c l m):=by
 have H:=ae h;obtain⟨al,J,⟨i,ak,a6⟩,de,y,hn⟩:=h;by_cases U:i<n
 case neg=>
  have q:decide ((i:Int)>=n)=true:=by simp;omega
  clear y;go_enter func30,ntmps30;go_wp2;go_quiet (fail)
  go_wp2;go_ret;exact⟨0,rfl,ad,hm,H.on (dm (Below.refl _ _) _),.of (dm (Below.refl _ _) _)⟩
 have q:decide ((i:Int)>=n)=false:=by simp;omega
 obtain⟨b,o,x,rfl,O,hx,hc⟩:=y.int U;clear hx y;go_enter func30,ntmps30;go_wp2;go_quiet (fail)
 go_wp2;obtain⟨h,aw,e,f,ay⟩:b1 ((w.drewN nq).setCell ⟨s,1,none⟩ (.int .i64 ((i:Int)+1))) s (some ⟨b,o,none⟩) n c l/\fN s w ((w.drewN nq).setCell ⟨s,1,none⟩ (.int .i64 ((i:Int)+1)))/\
   ((w.drewN nq).setCell ⟨s,1,none⟩ (.int .i64 ((i:Int)+1))).cell? ⟨s,0,none⟩=some (.slice (some ⟨b,o,none⟩) n c)/\((w.drewN nq).setCell ⟨s,1,none⟩ (.int .i64 ((i:Int)+1))).cell? ⟨s,1,none⟩=some (.int .i64 ((i:Int)+1))/\
   ((w.drewN nq).setCell ⟨s,1,none⟩ (.int .i64 ((i:Int)+1))).cell? ⟨b,o+i,none⟩=some (.int .i64 x):=by
  have d:=H.on (dm (Below.refl _ _) nq);have aw:fN s w (w.drewN nq):=.of (dm (Below.refl _ _) nq);generalize w.drewN nq=v at *;have e0:(v.setCell ⟨s,1,none⟩ (.int .i64 ((i:Int)+1))).cell? ⟨s,0,none⟩=some (.slice (some ⟨b,o,none⟩) n c):=(World.cell?_setCell_other _ _ _ _ (by simp)).trans d.c0;have e1:(v.setCell ⟨s,1,none⟩ (.int .i64 ((i:Int)+1))).cell? ⟨s,1,none⟩=some (.int .i64 ((i:Int)+1)):=by
   obtain⟨k,_,ap⟩:=d.c1;simp[go_sem,ap]
  have cb:Below s v (v.setCell ⟨s,1,none⟩ (.int .i64 ((i:Int)+1))):=(Below.refl s v).setCell (p:=⟨s,1,none⟩) (Hx s) _;refine⟨⟨by simpa using d.lt,e0,⟨i+1,ad,by rw[e1];simp⟩,(World.frozen?_setCell _ _ _ _).trans d.fz,d.ls.eQ cb,d.hn⟩,aw.setCell _ _,e0,e1,?_⟩;rw[cb.cell (by exact O),<-hc];exact aw.cell ad ad
 have aa:IntKind.i64.wrap ((i:Int)+1 - 1)=i:=by rw[show (i:Int)+1 - 1=i by omega];exact IntWalk.i64_in _ ad
 have aD:=ai h aw;clear h aw H J a6 hc de;generalize (w.drewN nq).setCell ⟨s,1,none⟩ (.int .i64 ((i:Int)+1))=v at *;go_quiet (first|(go_at_call 7;refine Calls.quiet_of_same ((within_any x m hm az _).mono λ_ _ h=>⟨h.1,h.2.symm⟩)))
 go_wp2;go_ret;have aY:=rV (x:=x) (n:=m) hm;exact⟨_,rfl,aY.1,aY.2,aD.1.on (dm (Below.refl _ _) _),aD.2.trans (.of (dm (Below.refl _ _) _))⟩
theorem b1.Fp{s g:Nat}{l:List Int}(h:b1 w s A n c l)(O:Below g w ab)(hs:s<g):b1 ab s A n c l:=by
 have al:=h.lt;refine⟨Hy h.lt O.size,?_,?_,?_,h.ls.eQ (O.mono ad),h.hn⟩
 .exact(O.cell (p:=⟨s,0,none⟩) hs).trans h.c0
 .obtain⟨i,ak,hc⟩:=h.c1;exact⟨i,ak,(O.cell (p:=⟨s,1,none⟩) hs).trans hc⟩
 .exact(O.frozen (p:=⟨s,1,none⟩) hs).trans h.fz
theorem fN.eA{s:Nat}{aT v:World}(h:fN s w aT)(O:Below w.heap.size aT v):fN s w v:=
 ⟨O.os.trans h.os,O.tape.trans h.tape,O.output.trans h.output,Ir h.size O.size,λk ap hn=>(O.block k ap).trans (h.block k ap hn)⟩
theorem fN.frozen{s:Nat}{a b:World}(h:fN s a b){k j:Nat}(ap:k<a.heap.size)(hn:k≠s):b.frozen? ⟨k,j,none⟩=a.frozen? ⟨k,j,none⟩:=by
 simp only[World.frozen?,h.block k ap hn]
structure qQ(w:World)(s b:Nat):Prop where
 lt:b<w.heap.size
 ne:b≠s
 cs:∃am s1 s2,w.cell? ⟨b,0,none⟩=some (.string am)/\w.cell? ⟨b,1,none⟩=some (.string s1)/\w.cell? ⟨b,2,none⟩=some (.string s2)
theorem qQ.on{s b:Nat}(h:qQ w s b)(he:fN s w ab):qQ ab s b:=by
 obtain⟨hl,hn,am,s1,s2,h0,ac,J⟩:=h;exact⟨Hy hl he.size,hn,am,s1,s2,(he.cell hl hn).trans h0,(he.cell hl hn).trans ac,(he.cell hl hn).trans J⟩
def VE.made:VE->Prop
 | .num n=>0<=n/\n<4611686018427387904
 | .gI _=>True
 | .loc _=>False
 | .iq _=>False
 | .un op x=>(op=3\/op=4)/\x.made
 | .bin op x y=>(5<=op/\op<=17)/\x.made/\y.made
theorem pj(w:World)(s:Nat)(A:IP)(n c:Nat)(l:List Int)(h:b1 w s A n c l) :
  Calls prog 112 #[.pointer (some ⟨s,0,none⟩)] w (vx w s A n c l 4611686018427387904):=by
 have H:=ae h;clear h;go_enter func112,ntmps112;go_wp2_with(fail);refine(aX _ s A n c l 8 H.o ad ad).mono ?_;rintro e aO ⟨k,rfl,bK,b7,ac,ar⟩;have H1:=ai ac ar;clear ac ar;by_cases ap:k=1
 .have q:(k == 1)=true:=by simpa using ap
  go_wp2_with(fail);refine(aX _ s A n c l 4611686018427387904 H1.1 ad ad).mono ?_;rintro e aT ⟨bZ,rfl,bM,ey,J,bx⟩;have bi:=ai J bx;clear J bx;go_wp2;go_ret;exact⟨bZ,rfl,bM,ey,bi.1,H1.2.trans bi.2⟩
 .have q:(k == 1)=false:=by simpa using ap
  go_wp2_with(fail);refine(aX _ s A n c l 4 H1.1 ad ad).mono ?_;rintro e aT ⟨bZ,rfl,bM,ey,J,bx⟩;have bi:=ai J bx;clear J bx;go_wp2;go_ret;exact⟨bZ,rfl,bM,ad,bi.1,H1.2.trans bi.2⟩
theorem ak.AM{C:ak->Prop}(f:∀b:ak,(∀s∈b.list,C s.th/\C s.el)->C b):∀b:ak,C b:=by
 have c:C .nil:=f .nil λs hs=>by simp[ak.list] at hs
 have fin:∀b:ak,(∀s∈b.list,C s.th/\C s.el)->C b/\∀s∈b.list,C s.th/\C s.el:=λb h=>⟨f b h,h⟩
 suffices h:∀b:ak,C b/\∀s∈b.list,C s.th/\C s.el from λb=>(h b).1
 intro b
 induction b with
 | nil=>exact fin _ λs hs=>by simp[ak.list] at hs
 | set v n e rest aa=>
  exact vG
 | call g n aJ rest aa=>
  exact vG
 | lock u r rest aa=>
  exact vG
 | ite e th el rest j o aa=>
  refine fin _ λs hs=>?_;rcases Iq.1 hs with rfl|hs
  .exact⟨j.1,o.1⟩
  .exact aa.2 s hs
 | fY e th rest j aa=>
  refine fin _ λs hs=>?_;rcases Iq.1 hs with rfl|hs
  .exact⟨j.1,c⟩
  .exact aa.2 s hs
 | ret rest aa=>
  exact vG
theorem hY:∀(b:ak) (s:ay),s∈b.list->s.th.num+s.el.num<b.num
 | .nil,s,h=>by simp[ak.list] at h
 | .set v n e rest,s,h=>by
  rcases Iq.1 h with rfl|h
  .simp[ay.th,ay.el,ak.num]
  .have:=hY rest s h;simp only[ak.num];omega
 | .call g n aJ rest,s,h=>by
  rcases Iq.1 h with rfl|h
  .simp[ay.th,ay.el,ak.num]
  .have:=hY rest s h;simp only[ak.num];omega
 | .lock u r rest,s,h=>by
  rcases Iq.1 h with rfl|h
  .simp[ay.th,ay.el,ak.num]
  .have:=hY rest s h;simp only[ak.num];omega
 | .ite e th el rest,s,h=>by
  rcases Iq.1 h with rfl|h
  .simp only[ay.th,ay.el,ak.num];omega
  .have:=hY rest s h;simp only[ak.num];omega
 | .fY e th rest,s,h=>by
  rcases Iq.1 h with rfl|h
  .simp only[ay.th,ay.el,ak.num];omega
  .have:=hY rest s h;simp only[ak.num];omega
 | .ret rest,s,h=>by
  rcases Iq.1 h with rfl|h
  .simp[ay.th,ay.el,ak.num]
  .have:=hY rest s h;simp only[ak.num];omega
def uE(e:VE):Prop:=∃N d,dr N/\d<=12/\e.src N d
def nR(r:eC):Prop:=br r.name.data.toList=true/\∀e,r.idx=some e->uE e
def sJ:cW->Prop
 | .mx r=>nR r
 | .ex e=>uE e
def gd:Nat->ak->Prop
 | _,.nil=>True
 | d,.set _ n e rest=>br n.data.toList=true/\uE e/\gd d rest
 | d,.call _ n aJ rest=>(br n.data.toList=true/\(∀a∈aJ,sJ a)/\aJ.length<=1000)/\gd d rest
 | d,.lock _ r rest=>nR r/\gd d rest
 | 0,.ite ..=>False
 | 0,.fY ..=>False
 | d+1,.ite e th el rest=>uE e/\gd d th/\gd d el/\gd (d+1) rest
 | d+1,.fY e th rest=>uE e/\gd d th/\gd (d+1) rest
 | d,.ret rest=>gd d rest
def GN(d:Nat):ay->Prop
 | .set _ n e=>br n.data.toList=true/\uE e
 | .call _ n aJ=>br n.data.toList=true/\(∀a∈aJ,sJ a)/\aJ.length<=1000
 | .lock _ r=>nR r
 | .ite e th el=>uE e/\∃k,d=k+1/\gd k th/\gd k el
 | .fY e th=>uE e/\∃k,d=k+1/\gd k th
 | .ret=>True
theorem gw:∀(b:ak) (d:Nat),gd d b->∀s∈b.list,GN d s
 | .nil,d,_,s,hs=>by simp[ak.list] at hs
 | .set v n e rest,d,h,s,hs=>by
  have F:br n.data.toList=true/\uE e/\gd d rest:=by cases d<;>exact h
  rcases Iq.1 hs with rfl|hs
  .exact⟨F.1,F.2.1⟩
  .exact gw rest d F.2.2 s hs
 | .call g n aJ rest,d,h,s,hs=>by
  have F:(br n.data.toList=true/\(∀a∈aJ,sJ a)/\aJ.length<=1000)/\gd d rest:=by cases d<;>exact h
  rcases Iq.1 hs with rfl|hs
  .exact F.1
  .exact gw rest d F.2 s hs
 | .lock u r rest,d,h,s,hs=>by
  have F:nR r/\gd d rest:=by cases d<;>exact h
  rcases Iq.1 hs with rfl|hs
  .exact F.1
  .exact gw rest d F.2 s hs
 | .ite e th el rest,0,h,s,hs=>h.elim
 | .fY e th rest,0,h,s,hs=>h.elim
 | .ite e th el rest,d+1,h,s,hs=>by
  rcases Iq.1 hs with rfl|hs
  .exact⟨h.1,d,rfl,h.2.1,h.2.2.1⟩
  .exact gw rest (d+1) h.2.2.2 s hs
 | .fY e th rest,d+1,h,s,hs=>by
  rcases Iq.1 hs with rfl|hs
  .exact⟨h.1,d,rfl,h.2.1⟩
  .exact gw rest (d+1) h.2.2 s hs
 | .ret rest,d,h,s,hs=>by
  have F:gd d rest:=by cases d<;>exact h
  rcases Iq.1 hs with rfl|hs
  .trivial
  .exact gw rest d F s hs
theorem nR.src(h:nR r):B7 r:=λe he=>by
 obtain⟨N,d,_,_,hs⟩:=h.2 e he;exact⟨N,d,hs⟩
theorem sJ.src{a:cW}(h:sJ a):Dn a:=by
 cases a with
 | mx r=>exact nR.src h
 | ex e=>
  obtain⟨N,d,_,_,hs⟩:=h;exact⟨N,d,hs⟩
theorem uE.src{e:VE}(h:uE e):∃N d,e.src N d:=by
 obtain⟨N,d,_,_,hs⟩:=h;exact⟨N,d,hs⟩
theorem iE:∀(b:ak) (d:Nat),gd d b->m4 b
 | .nil,_,_=>trivial
 | .set v n e rest,d,h=>by
  have F:br n.data.toList=true/\uE e/\gd d rest:=by cases d<;>exact h
  exact⟨F.2.1.src,iE rest d F.2.2⟩
 | .call g n aJ rest,d,h=>by
  have F:(br n.data.toList=true/\(∀a∈aJ,sJ a)/\aJ.length<=1000)/\gd d rest:=by cases d<;>exact h
  exact⟨⟨λa I=>(F.1.2.1 a I).src,F.1.2.2⟩,iE rest d F.2⟩
 | .lock u r rest,d,h=>by
  have F:nR r/\gd d rest:=by cases d<;>exact h
  exact⟨F.1.src,iE rest d F.2⟩
 | .ite e th el rest,0,h=>h.elim
 | .fY e th rest,0,h=>h.elim
 | .ite e th el rest,d+1,h=>⟨h.1.src,iE th d h.2.1,iE el d h.2.2.1,iE rest (d+1) h.2.2.2⟩
 | .fY e th rest,d+1,h=>⟨h.1.src,iE th d h.2.1,iE rest (d+1) h.2.2⟩
 | .ret rest,d,h=>by
  have F:gd d rest:=by cases d<;>exact h
  exact iE rest d F
theorem Co(bS:nc G)(hV:dr V)(h:rU G V r):nR r:=by
 rcases h with⟨m,hm,hn,ac,J⟩|⟨hp,ak⟩
 .refine⟨by rw[<-hn];exact bS.af m hm,λe he=>?_⟩;by_cases hs:0<m.size
  .obtain⟨x,hx,ao⟩:=ac hs;rw[hx] at he;injection he with he;subst he;exact⟨V,2,hV,ad,ao⟩
  .rw[J hs] at he;cases he
 .refine⟨bS.params _ hp,λe he=>?_⟩;rw[ak] at he;cases he
theorem wJ{G:Env}(bS:nc G){V:IQ}(hV:dr V):∀(ps:List (ByteArray×Bool)) (aJ:List cW),h9 G V ps aJ->(∀a∈aJ,sJ a)/\aJ.length=ps.length
 | [],[],_=>⟨λa h=>by simp at h,rfl⟩
 | p::ps,a::aJ,h=>by
  obtain⟨j,o⟩:=wJ bS hV ps aJ h.2;refine⟨λx hx=>?_,by simp[o]⟩;rcases Iq.1 hx with rfl|hx
  .cases x with
   | mx r=>exact Co bS hV h.1.2
   | ex e=>exact⟨V,2,hV,ad,h.1.2⟩
  .exact j x hx
 | [],_::_,h=>h.elim
 | _::_,[],h=>h.elim
theorem jU{G:Env}(bS:nc G):∀(b:ak) (d:Nat) (V T:IQ),dr V->eJ G d V T b->gd d b
 | .nil,d,V,T,hV,h=>by cases d<;>trivial
 | .set true n e rest,d,V,T,hV,h=>by
  have F:br n.data.toList=true/\n∉T/\e.src V 2/\eJ G d (V++[n]) (T++[n]) rest:=by cases d<;>exact h
  have aa:=jU bS rest d _ _ (jA hV F.1) F.2.2.2;have r:br n.data.toList=true/\uE e/\gd d rest:=⟨F.1,⟨V,2,hV,ad,F.2.2.1⟩,aa⟩
  cases d<;>exact r
 | .set false n e rest,d,V,T,hV,h=>by
  have F:n∈V/\e.src V 2/\eJ G d V T rest:=by cases d<;>exact h
  have aa:=jU bS rest d _ _ hV F.2.2;have r:br n.data.toList=true/\uE e/\gd d rest:=⟨hV n F.1,⟨V,2,hV,ad,F.2.1⟩,aa⟩
  cases d<;>exact r
 | .call g n aJ rest,d,V,T,hV,h=>by
  have F:(∃ps,(n,ps)∈G.funcs/\h9 G V ps aJ)/\eJ G d V T rest:=by cases d<;>exact h
  have aa:=jU bS rest d _ _ hV F.2;obtain⟨ps,cq,cw⟩:=F.1;obtain⟨z,w⟩:=wJ bS hV ps aJ cw;have aA:=bS.funcs _ cq;have hle:aJ.length<=1000:=by have:=aA.2;simp only[] at this;omega
  have r:(br n.data.toList=true/\(∀a∈aJ,sJ a)/\aJ.length<=1000)/\gd d rest:=⟨⟨aA.1,z,hle⟩,aa⟩
  cases d<;>exact r
 | .lock u r rest,d,V,T,hV,h=>by
  have F:rU G V r/\eJ G d V T rest:=by cases d<;>exact h
  have aa:=jU bS rest d _ _ hV F.2;have r:nR r/\gd d rest:=⟨Co bS hV F.1,aa⟩
  cases d<;>exact r
 | .ite e th el rest,0,V,T,hV,h=>h.elim
 | .fY e th rest,0,V,T,hV,h=>h.elim
 | .ite e th el rest,d+1,V,T,hV,h=>⟨⟨V,2,hV,ad,h.1⟩,jU bS th d V T hV h.2.1,jU bS el d V T hV h.2.2.1,jU bS rest (d+1) V T hV h.2.2.2⟩
 | .fY e th rest,d+1,V,T,hV,h=>⟨⟨V,2,hV,ad,h.1⟩,jU bS th d V T hV h.2.1,jU bS rest (d+1) V T hV h.2.2⟩
 | .ret rest,d,V,T,hV,h=>by
  have F:eJ G d V T rest:=by cases d<;>exact h
  have aa:=jU bS rest d _ _ hV F;cases d<;>exact aa
def g8(g:ByteArray×Int):List UInt8:=aR (g0 g)
def jS(m:bJ):List UInt8:=aR (g1 m)
def jQ(f:aE):List UInt8:=aR (gZ f)
def gM(l:List (ByteArray×Bool)):List UInt8:=aR (dL (l.map gk))
theorem Bc(g:ByteArray×Int):g8 g=[118,97,114,32]++(g.1.data.toList++((if g.2=0 then [] else [32,61,32]++aR (g3 g.2))++[59,10])):=by
 unfold g8 g0;split
 .simp[aR,Atom.bytes,kw]
 .simp only[aY,a1,Ip];simp[aR,Atom.bytes,kw]
theorem Bw(m:bJ):jS m=(if m.re then [114] else [])++([109,117,116,101,120,32]++(m.name.data.toList++((if 0<m.size then [91]++(aR (g3 m.size)++[93]) else [])++[59,10]))):=by
 unfold jS g1;by_cases h:0<m.size
 .cases m.re<;>simp[h,aR,Atom.bytes,kw,fx]
 .cases m.re<;>simp[h,aR,Atom.bytes,kw,fx]
theorem py{l:List (ByteArray×Bool)}{q:ByteArray×Bool}(h:l[k]?=some q):gM (l.take (k+1))=gM (l.take k)++((if 0<k then [44,32] else [])++((if q.2 then [109,117,116,101,120,32] else [])++q.1.data.toList)):=by
 have ap:k<l.length:=(List.getElem?_eq_some_iff.1 h).1;have bp:aR (gk q)=(if q.2 then [109,117,116,101,120,32] else [])++q.1.data.toList:=by
  unfold gk;split<;>simp[aR,Atom.bytes,kw,fx]
 unfold gM;rw[List.take_add_one,h,Ig];show aR (dL (List.map gk (List.take k l)++[gk q]))=_
 rw[lB];by_cases h0:0<k
 .rw[if_neg (by intro e;have:=congrArg List.length e;simp only[Ib,List.length_take,Iu] at this;omega),if_pos h0,a1,aY,aY,bp];simp[Atom.bytes]
 .obtain rfl:k=0:=ad;simp[dL,aR,<-bp]
theorem A1(f:aE):jQ f=[102,117,110,99,32]++(f.name.data.toList++([40]++(gM f.params++([41,32,123,10]++(cn 1 f.body++[125,10]))))):=by
 unfold jQ gZ gM cn;simp only[aY,a1];simp[aR,Atom.bytes,kw]
theorem lr(f:α->List Atom)(l:List α):aR (l.flatMap f)=(l.map λx=>aR (f x)).flatten:=by
 induction l with
 | nil=>rfl
 | cons a l aa=>rw[Iv,a1,aa];simp
def eR{α:Type}(f:α->List UInt8)(l:List α):List UInt8:=(l.map f).flatten
theorem mJ{f:α->List UInt8}{l:List α}{x:α}(h:l[k]?=some x):eR f (l.take (k+1))=eR f (l.take k)++f x:=by
 unfold eR;rw[List.take_add_one,h,Ig,List.flatten_append];simp
theorem ku(f:α->List UInt8)(l:List α)(k:Nat):(eR f (l.take k)).length<=(eR f l).length:=by
 conv=>rhs;rw[<-List.take_append_drop k l]
 unfold eR;rw[Ig,List.flatten_append,Hz];omega
theorem qA(p:bC):aR (ff p)=eR g8 p.globals++(eR jS p.af++eR jQ p.funcs):=by
 unfold ff;rw[a1,a1,lr,lr,lr];rfl
def ak.ez:List ay->ak
 | []=>.nil
 | .set v n e::l=>.set v n e (ez l)
 | .call g n aJ::l=>.call g n aJ (ez l)
 | .lock u r::l=>.lock u r (ez l)
 | .ite e th el::l=>.ite e th el (ez l)
 | .fY e th::l=>.fY e th (ez l)
 | .ret::l=>.ret (ez l)
theorem sG:∀l:List ay,(ak.ez l).list=l
 | []=>rfl
 | s::l=>by cases s<;>simp only[ak.ez,ak.list,sG l]
theorem l2(l:List ay):cL (.ez l)=l.map a3:=by rw[ct,sG]
def ay.decl:ay->List ByteArray
 | .set true n _=>[n]
 | _=>[]
def decls(l:List ay):List ByteArray:=l.flatMap ay.decl
theorem qd(l m:List ay):decls (l++m)=decls l++decls m:=List.flatMap_append
def ak.all:ak->List ByteArray
 | .nil=>[]
 | .set true n _ rest=>n::rest.all
 | .set false _ _ rest=>rest.all
 | .call _ _ _ rest=>rest.all
 | .lock _ _ rest=>rest.all
 | .ite _ th el rest=>th.all++el.all++rest.all
 | .fY _ th rest=>th.all++rest.all
 | .ret rest=>rest.all
def ay.all:ay->List ByteArray
 | .set true n _=>[n]
 | .ite _ th el=>th.all++el.all
 | .fY _ th=>th.all
 | _=>[]
theorem all_cons(s:ay)(l:List ay):(ak.ez (s::l)).all=s.all++(ak.ez l).all:=by
 cases s with
 | set v n e=>cases v<;>rfl
 | ite e th el=>simp[ak.ez,ak.all,ay.all]
 | fY e th=>simp[ak.ez,ak.all,ay.all]
 | call g n aJ=>rfl
 | lock u r=>rfl
 | ret=>rfl
theorem vS(l m:List ay):(ak.ez (l++m)).all=(ak.ez l).all++(ak.ez m).all:=by
 induction l with
 | nil=>rfl
 | cons s l aa=>rw[Ip,all_cons,all_cons,aa,Io]
theorem AR(s:ay){n:ByteArray}(h:n∈s.decl):n∈s.all:=by
 cases s with
 | set v n e=>cases v<;>simp_all [ay.decl,ay.all]
 | _=>simp[ay.decl] at h
theorem wX(l:List ay){n:ByteArray}(h:n∈decls l):n∈(ak.ez l).all:=by
 induction l with
 | nil=>simp[decls] at h
 | cons s l aa=>
  rw[all_cons];unfold decls at h;rw[Iv] at h;rcases Ii.1 h with h|h
  .exact Ii.2 (.inl (AR s h))
  .exact Ii.2 (.inr (aa h))
def ay.num:ay->Nat
 | .ite _ th el=>th.num+el.num+1
 | .fY _ th=>th.num+1
 | _=>1
theorem kj(s:ay)(l:List ay):(ak.ez (s::l)).num=s.num+(ak.ez l).num:=by
 cases s<;>simp only[ak.ez,ak.num,ay.num]<;>omega
theorem wq(l m:List ay):(ak.ez (l++m)).num=(ak.ez l).num+(ak.ez m).num:=by
 induction l with
 | nil=>simp[ak.ez,ak.num]
 | cons s l aa=>rw[Ip,kj,kj,aa,Nat.add_assoc]
theorem rv(s:ay):(ak.ez [s]).num=s.num:=by rw[kj];simp[ak.ez,ak.num]
theorem sC(l:List ay):l.length<=(ak.ez l).num:=by
 induction l with
 | nil=>simp
 | cons s l aa=>
  rw[kj];have:1<=s.num:=by cases s<;>simp[ay.num]
  simp;omega
def Dy(G:Env)(d:Nat)(V T:IQ):ay->Prop
 | .set true n e=>br n.data.toList=true/\n∉T/\e.src V 2
 | .set false n e=>n∈V/\e.src V 2
 | .call _ n aJ=>∃ps,(n,ps)∈G.funcs/\h9 G V ps aJ
 | .lock _ r=>rU G V r
 | .ite e th el=>∃k,d=k+1/\e.src V 2/\eJ G k V T th/\eJ G k V T el
 | .fY e th=>∃k,d=k+1/\e.src V 2/\eJ G k V T th
 | .ret=>True
theorem mE:eJ G d V T .nil:=by cases d<;>trivial
theorem mD{s:ay}{l:List ay}:eJ G d V T (.ez (s::l))↔Dy G d V T s/\eJ G d (V++s.decl) (T++s.decl) (.ez l):=by
 cases s with
 | set v n e=>
  cases v
  .simp only[ak.ez,ay.decl,Dy,IB];cases d<;>exact⟨λh=>⟨⟨h.1,h.2.1⟩,h.2.2⟩,λh=>⟨h.1.1,h.1.2,h.2⟩⟩
  .simp only[ak.ez,ay.decl,Dy]
   cases d<;>exact⟨λh=>⟨⟨h.1,h.2.1,h.2.2.1⟩,h.2.2.2⟩,λh=>⟨h.1.1,h.1.2.1,h.1.2.2,h.2⟩⟩
 | call g n aJ=>
  exact yh
 | lock u r=>
  exact yh
 | ite e th el=>
  simp only[ak.ez,ay.decl,Dy,IB]
  cases d with
  | zero=>exact⟨λh=>h.elim,λ⟨⟨k,h,_⟩,_⟩=>ad⟩
  | succ d=>exact⟨λh=>⟨⟨d,rfl,h.1,h.2.1,h.2.2.1⟩,h.2.2.2⟩,λ⟨⟨k,h,ac,J,aR⟩,bv⟩=>by
    obtain rfl:d=k:=ad
    exact⟨ac,J,aR,bv⟩⟩
 | fY e th=>
  simp only[ak.ez,ay.decl,Dy,IB]
  cases d with
  | zero=>exact⟨λh=>h.elim,λ⟨⟨k,h,_⟩,_⟩=>ad⟩
  | succ d=>exact⟨λh=>⟨⟨d,rfl,h.1,h.2.1⟩,h.2.2⟩,λ⟨⟨k,h,ac,J⟩,bv⟩=>by
    obtain rfl:d=k:=ad
    exact⟨ac,J,bv⟩⟩
 | ret=>
  simp only[ak.ez,ay.decl,Dy,IB,true_and];cases d<;>exact Iff.rfl
theorem rS{G:Env}{d:Nat}:∀{V T:IQ} {l m:List ay},eJ G d V T (.ez (l++m))↔eJ G d V T (.ez l)/\eJ G d (V++decls l) (T++decls l) (.ez m)
 | V,T,[],m=>by simp[decls,ak.ez,mE]
 | V,T,s::l,m=>by
  have aa:=rS (G:=G) (d:=d) (V:=V++s.decl) (T:=T++s.decl) (l:=l) (m:=m);rw[Ip,mD,mD,aa];simp only[decls,Iv,Io];exact and_assoc.symm
theorem rT{s:ay}:eJ G d V T (.ez [s])↔Dy G d V T s:=by
 rw[mD];exact⟨λh=>h.1,λh=>⟨h,mE⟩⟩
theorem ds{V ab:IQ}(h:V ⊆ ab):∀(d:Nat) (x:VE),x.src V d->x.src ab d
 | d,.num _,hx=>by cases d<;>exact hx
 | d,.gI s,hx=>by
  have g:s∈V:=by cases d<;>exact hx
  have:=h g
  cases d<;>exact this
 | d,.loc _,hx=>by cases d<;>exact hx.elim
 | d,.iq _,hx=>by cases d<;>exact hx.elim
 | 0,.un _ _,hx=>hx.elim
 | 0,.bin _ _ _,hx=>hx.elim
 | d+1,.un _ x,hx=>⟨hx.1,ds h d x hx.2⟩
 | d+1,.bin _ x y,hx=>⟨hx.1,ds h d x hx.2.1,ds h d y hx.2.2⟩
theorem kq{ab:IQ}(h:V ⊆ ab)(aY:rU G V r):rU G ab r:=by
 rcases aY with⟨m,hm,hn,ac,J⟩|hp
 .exact .inl ⟨m,hm,hn,λhs=>by obtain⟨e,he,ao⟩:=ac hs;exact⟨e,he,ds h 2 e ao⟩,J⟩
 .exact .inr hp
theorem m9{G:Env}{V ab:IQ}(h:V ⊆ ab):∀(ps:List (ByteArray×Bool)) (aJ:List cW),h9 G V ps aJ->h9 G ab ps aJ
 | [],[],_=>trivial
 | p::ps,a::aJ,I=>by
  refine⟨?_,m9 h ps aJ I.2⟩
  cases a with
  | mx r=>exact⟨I.1.1,kq h I.1.2⟩
  | ex e=>exact⟨I.1.1,ds h 2 e I.1.2⟩
 | [],_::_,I=>I.elim
 | _::_,[],I=>I.elim
theorem Ca{ab:IQ}(h:V ⊆ ab)(m:IQ):V++m ⊆ ab++m:=λx hx=>by
 rcases Ii.1 hx with hx|hx
 .exact Ii.2 (.inl (h hx))
 .exact Ii.2 (.inr hx)
theorem tT{A aw:IQ}{n:ByteArray}(h:∀x∈A,x∈aw->x∈T):∀x∈A,x∈aw++[n]->x∈T++[n]:=λx hx hm=>by
 rcases Ii.1 hm with hm|hm
 .exact Ii.2 (.inl (h x hx hm))
 .exact Ii.2 (.inr hm)
theorem cV{G:Env}:∀(b:ak) (d a:Nat) (V ab T aw:IQ),V ⊆ ab->(∀n∈b.all,n∈aw->n∈T)->d<=a->eJ G d V T b->eJ G a ab aw b
 | .nil,d,a,V,ab,T,aw,hV,a5,hd,h=>mE
 | .set true n e rest,d,a,V,ab,T,aw,hV,a5,hd,h=>by
  have F:br n.data.toList=true/\n∉T/\e.src V 2/\eJ G d (V++[n]) (T++[n]) rest:=by cases d<;>exact h
  have aa:=cV rest d a (V++[n]) (ab++[n]) (T++[n]) (aw++[n]) (Ca hV _) (tT λx hx=>a5 x (by simp[ak.all,hx])) hd F.2.2.2;have r:br n.data.toList=true/\n∉aw/\e.src ab 2/\eJ G a (ab++[n]) (aw++[n]) rest:=⟨F.1,λhm=>F.2.1 (a5 n (by simp[ak.all]) hm),ds hV 2 e F.2.2.1,aa⟩
  cases a<;>exact r
 | .set false n e rest,d,a,V,ab,T,aw,hV,a5,hd,h=>by
  have F:n∈V/\e.src V 2/\eJ G d V T rest:=by cases d<;>exact h
  have aa:=cV rest d a V ab T aw hV (λx hx=>a5 x (by simp[ak.all,hx])) hd F.2.2;have r:n∈ab/\e.src ab 2/\eJ G a ab aw rest:=⟨hV F.1,ds hV 2 e F.2.1,aa⟩
  cases a<;>exact r
 | .call g n aJ rest,d,a,V,ab,T,aw,hV,a5,hd,h=>by
  have F:(∃ps,(n,ps)∈G.funcs/\h9 G V ps aJ)/\eJ G d V T rest:=by cases d<;>exact h
  have aa:=cV rest d a V ab T aw hV (λx hx=>a5 x (by simp[ak.all,hx])) hd F.2;obtain⟨ps,cq,cw⟩:=F.1;have r:(∃ps,(n,ps)∈G.funcs/\h9 G ab ps aJ)/\eJ G a ab aw rest:=⟨⟨ps,cq,m9 hV ps aJ cw⟩,aa⟩
  cases a<;>exact r
 | .lock u r rest,d,a,V,ab,T,aw,hV,a5,hd,h=>by
  have F:rU G V r/\eJ G d V T rest:=by cases d<;>exact h
  have aa:=cV rest d a V ab T aw hV (λx hx=>a5 x (by simp[ak.all,hx])) hd F.2;have r:rU G ab r/\eJ G a ab aw rest:=⟨kq hV F.1,aa⟩
  cases a<;>exact r
 | .ite e th el rest,0,a,V,ab,T,aw,hV,a5,hd,h=>h.elim
 | .fY e th rest,0,a,V,ab,T,aw,hV,a5,hd,h=>h.elim
 | .ite e th el rest,d+1,0,V,ab,T,aw,hV,a5,hd,h=>ad
 | .fY e th rest,d+1,0,V,ab,T,aw,hV,a5,hd,h=>ad
 | .ite e th el rest,d+1,a+1,V,ab,T,aw,hV,a5,hd,h=>
  ⟨ds hV 2 e h.1,cV th d a V ab T aw hV (λx hx=>a5 x (by simp[ak.all,hx])) ad h.2.1,
   cV el d a V ab T aw hV (λx hx=>a5 x (by simp[ak.all,hx])) ad h.2.2.1,cV rest (d+1) (a+1) V ab T aw hV (λx hx=>a5 x (by simp[ak.all,hx])) hd h.2.2.2⟩
 | .fY e th rest,d+1,a+1,V,ab,T,aw,hV,a5,hd,h=>
  ⟨ds hV 2 e h.1,cV th d a V ab T aw hV (λx hx=>a5 x (by simp[ak.all,hx])) ad h.2.1,cV rest (d+1) (a+1) V ab T aw hV (λx hx=>a5 x (by simp[ak.all,hx])) hd h.2.2⟩
 | .ret rest,d,a,V,ab,T,aw,hV,a5,hd,h=>by
  have F:eJ G d V T rest:=by cases d<;>exact h
  have aa:=cV rest d a V ab T aw hV (λx hx=>a5 x (by simpa[ak.all] using hx)) hd F;cases a<;>exact aa
def gR(k:Nat):ByteArray:=⟨#[118,UInt8.ofNat (97+k % 26),UInt8.ofNat (97+k / 26 % 26)]⟩
theorem xK(a1:j<26)(ap:k<26)(h:gR j=gR k):j=k:=by
 unfold gR at h;rw[ByteArray.ext_iff] at h;have J:=congrArg (λa:Array UInt8=>a[1]!) h;have aR:(UInt8.ofNat (97+j % 26)).toNat=(UInt8.ofNat (97+k % 26)).toNat:=congrArg UInt8.toNat J;simp at aR;omega
theorem Cl(ap:k<26):br (gR k).data.toList=true:=by
 have:∀k:Fin 26,br (gR k.val).data.toList=true:=by decide
 exact this ⟨k,ap⟩
structure Made(G:Env)(d:Nat)(V T:IQ)(L R:Nat)(l:List ay):Prop where
 wf:eJ G d V T (.ez l)
 all:∀n∈(ak.ez l).all,∃k,R<=k/\k<L/\n=gR k
 num:(ak.ez l).num<=2*(L - R)
 le:R<=L
theorem Made.nil(G:Env)(d:Nat)(V T:IQ)(L:Nat):Made G d V T L L []:=⟨mE,λn h=>by simp[ak.ez,ak.all] at h,by simp[ak.ez,ak.num],Hx _⟩
def lQ(T:IQ)(L:Nat):Prop:=∀k,k<L->gR k∉T
theorem Made.free{R:Nat}{l:List ay}(h:Made G d V T L R l)(br:L<=26)(aA:lQ T L):lQ (T++decls l) R:=λk ap hm=>by
 rcases Ii.1 hm with hm|hm
 .exact aA k (aC h.le) hm
 .obtain⟨j,ac,J,aR⟩:=h.all _ (wX l hm);have:=xK ad ad aR;omega
theorem Made.snoc{aY a0:Nat}{l:List ay}(h:Made G d V T L aY l){m:List ay}(hm:eJ G d (V++decls l) (T++decls l) (.ez m))(I:∀n∈(ak.ez m).all,∃k,a0<=k/\k<aY/\n=gR k)
  (hn:(ak.ez m).num<=2*(aY - a0)) (hle:a0<=aY):Made G d V T L a0 (l++m):=by
 refine⟨rS.2 ⟨h.wf,hm⟩,λn hn=>?_,?_,Ir hle h.le⟩
 .rw[vS] at hn;rcases Ii.1 hn with hn|hn
  .obtain⟨k,ac,J,aR⟩:=h.all n hn;exact⟨k,ad,J,aR⟩
  .obtain⟨k,ac,J,aR⟩:=I n hn;exact⟨k,ac,by have:=h.le;omega,aR⟩
 .rw[wq];have ac:=h.num;have J:=h.le;omega
def dz(i:Nat):ByteArray:=⟨#[103,UInt8.ofNat (48+i)]⟩
def h1(i:Nat):ByteArray:=⟨#[UInt8.ofNat (97+i)]⟩
def iU(i:Nat):ByteArray:=if i=0 then h2 else ⟨#[102,UInt8.ofNat (48+i)]⟩
def sL(i:Nat):ByteArray:=⟨#[112,UInt8.ofNat (48+i)]⟩
def eG:Nat->List ByteArray
 | 0=>[]
 | n+1=>sL (n+1)::eG n
def vg(ng nm nf:Nat):List ByteArray:=(List.range ng).map dz++(List.range nm).map h1++(List.range nf).map iU
def nu:List ByteArray:=vg 2 4 4++eG 2
theorem oW:nu.Nodup:=by
 have h:(nu.map λs=>s.data.toList).Nodup:=by decide
 exact(List.pairwise_map.1 h).imp λaZ e=>aZ (by rw[e])
theorem rf:∀s∈nu,br s.data.toList=true:=by decide
theorem w8:lQ nu 26:=by
 have h:∀k:Fin 26,(gR k.val).data.toList∉nu.map λs=>s.data.toList:=by decide
 intro k ap hm;exact h ⟨k,ap⟩ (Iz.2 ⟨_,hm,rfl⟩)
theorem uH(h:n<=2):(eG n).Sublist (eG 2):=by
 obtain rfl|rfl|rfl:n=0\/n=1\/n=2:=ad
 .exact List.nil_sublist _
 .exact List.Sublist.cons _ (List.Sublist.refl _)
 .exact List.Sublist.refl _
theorem Cg{ng nm nf:Nat}(ac:ng<=2)(J:nm<=4)(aR:nf<=4)(bv:n<=2):(vg ng nm nf++eG n).Sublist nu:=by
 unfold nu vg;refine List.Sublist.append (List.Sublist.append (List.Sublist.append ?_ ?_) ?_) (uH bv)
 .exact(List.range_sublist.2 ac).map _
 .exact(List.range_sublist.2 J).map _
 .exact(List.range_sublist.2 aR).map _
theorem mV{f:α->ByteArray}{h:Nat->ByteArray}{l:List α}(hl:∀i x,l[i]?=some x->f x=h i):l.map f=(List.range l.length).map h:=by
 apply List.ext_getElem?
 intro i;rw[List.getElem?_map,List.getElem?_map];by_cases ak:i<l.length
 .have hx:l[i]?=some l[i]:=List.getElem?_eq_getElem ak;rw[hx,List.getElem?_range ak];simp[hl i _ hx]
 .rw[List.getElem?_eq_none ad,List.getElem?_eq_none (by simp;omega)];rfl
structure gf(p:bC):Prop where
 ng:p.globals.length<=2
 nm:1<=p.af.length/\p.af.length<=4
 nf:1<=p.funcs.length/\p.funcs.length<=4
 gs:∀i g,p.globals[i]?=some g->g.1=dz i∧-2<=g.2/\g.2<=2
 ms:∀i m,p.af[i]?=some m->m.name=h1 i/\0<=m.size/\m.size<=3/\(m.re=true->m.size=0)
 fs:∀i f,p.funcs[i]?=some f->f.name=iU i/\(∃n,n<=2/\f.params.map (·.1)=eG n)/\(i=0->f.params=[])
theorem gf.vg{p:bC}(h:gf p):a4 p=vg p.globals.length p.af.length p.funcs.length:=by
 unfold a4 fo YtajlmkkidmjgoaaGreatDoor.vg;rw[mV λi x hx=>(h.gs i x hx).1,mV λi x hx=>(h.ms i x hx).1,mV λi x hx=>(h.fs i x hx).1]
theorem gf.sub(h:gf p)(aA:f∈p.funcs):(a4 p++f.params.map (·.1)).Sublist nu:=by
 obtain⟨i,ak⟩:=List.getElem?_of_mem aA;obtain⟨n,hn,hp⟩:=(h.fs i f ak).2.1;rw[h.vg,hp];exact Cg h.ng h.nm.2 h.nf.2 hn
theorem lG:∀n,(eG n).length=n
 | 0=>rfl
 | n+1=>by simp[eG,lG n]
theorem gf.hW(h:gf p)(aA:f∈p.funcs):f.params.length<=2:=by
 obtain⟨i,ak⟩:=List.getElem?_of_mem aA;obtain⟨n,hn,hp⟩:=(h.fs i f ak).2.1;have:=congrArg List.length hp;rw[Ib,lG] at this;omega
theorem gf.free(h:gf p)(aA:f∈p.funcs):lQ (a4 p++f.params.map (·.1)) 26:=λk ap hm=>w8 k ap ((h.sub aA).subset hm)
theorem gf.GX(h:gf p):∃f,p.funcs[0]?=some f/\f.name=h2/\f.params=[]:=by
 have:0<p.funcs.length:=h.nf.1;have hx:p.funcs[0]?=some p.funcs[0]:=List.getElem?_eq_getElem this;exact⟨_,hx,(h.fs 0 _ hx).1,(h.fs 0 _ hx).2.2 rfl⟩
theorem gf.env(h:gf p)(aA:f∈p.funcs):nc (ik p f):=by
 have ap:∀{f:aE},f∈p.funcs->∀s∈a4 p++f.params.map (·.1),br s.data.toList=true:=λaA s hs=>rf s ((h.sub aA).subset hs);refine⟨λm hm=>ap aA _ ?_,λq bp=>ap aA _ ?_,λg aM=>?_⟩
 .simp only[a4,Ii,Iz];exact .inl (.inl (.inr ⟨m,hm,rfl⟩))
 .simp only[Ii,Iz];exact .inr ⟨q,bp,rfl⟩
 .obtain⟨k,bM,rfl⟩:=Iz.1 aM;refine⟨ap bM _ ?_,h.hW bM⟩;simp only[a4,Ii,Iz];exact .inl (.inr ⟨k,bM,rfl⟩)
theorem gf.vars(h:gf p)(aA:f∈p.funcs):dr (fo p++ck f.params):=λs hs=>by
 refine rf s ((h.sub aA).subset ?_);rcases Ii.1 hs with hs|hs
 .exact Ii.2 (.inl (by simp only[a4,Ii];exact .inl (.inl hs)))
 .obtain⟨q,bp,rfl⟩:=Iz.1 hs;exact Ii.2 (.inr (Iz.2 ⟨q,(List.mem_filter.1 bp).1,rfl⟩))
theorem gf.wf(h:gf p)(O:∀f∈p.funcs,eJ (ik p f) 4 (fo p++ck f.params) (a4 p++f.params.map (·.1)) f.body)(hn:(p.funcs.map λf=>f.body.num).sum<=64):pH p:=by
 obtain⟨f0,h0,b,a⟩:=h.GX;have bx:=Ia h0;have hs:=h.sub bx;rw[a] at hs;simp only[Iy,IB] at hs;refine⟨λs hm=>rf s (hs.subset hm),hs.nodup oW,by have:=h.ng;omega,by have:=h.nm;omega,by have:=h.nf;omega,λg aM=>?_,λm hm=>?_,λf aA=>?_,⟨0,f0,h0,b,a⟩,hn⟩
 .obtain⟨i,ak⟩:=List.getElem?_of_mem aM;have:=(h.gs i g ak).2;omega
 .obtain⟨i,ak⟩:=List.getElem?_of_mem hm;have:=(h.ms i m ak).2;exact⟨this.1,ad,this.2.2⟩
 .refine⟨(h.env aA).params,h.hW aA,(h.sub aA).nodup oW,O f aA⟩
def kn(x:az):Prop:=(x.op=2\/x.op=3)\/(x.ints=[]/\x.places=[])
def Cj(u:ax):Prop:=∀p∈u.procs,∀x∈p.code,kn x
theorem ej{c:List az}{y:az}(h:∀x∈c,kn x)(a4:kn y):∀x∈c++[y],kn x:=λx hx=>by
 rcases Ii.1 hx with hx|hx
 .exact h x hx
 .rw[ID.1 hx];exact a4
theorem jF{c:List az}{b:Nat}{t:Int}(h:∀x∈c,kn x):∀x∈fM c b t,kn x:=λx hx=>by
 rcases o7 hx with hx|⟨y,a4,rfl⟩
 .exact h x hx
 .exact h y (Ia a4)
theorem dc:∀(b:ak) (l:List du) (n:Int) (c:List az),(∀x∈c,kn x)->∀x∈(dq b l n c).1,kn x
 | .nil,_,_,c,h=>h
 | .set true s e rest,l,n,c,h=>dc rest _ _ _ (ej h (.inr ⟨rfl,rfl⟩))
 | .set false s e rest,l,n,c,h=>dc rest _ _ _ (ej h (.inr ⟨rfl,rfl⟩))
 | .call g s aJ rest,l,n,c,h=>dc rest _ _ _ (ej h (.inl (by cases g<;>simp[k2])))
 | .lock u r rest,l,n,c,h=>dc rest _ _ _ (ej h (.inr ⟨rfl,rfl⟩))
 | .ite e th el rest,l,n,c,h=>by
  have ac:=dc th l n _ (ej (y:=jX (bx l e) 0) h (.inr ⟨rfl,rfl⟩));simp only[dq];refine dc rest _ _ _ ?_;split
  .exact jF ac
  .exact jF (dc el l _ _ (jF (ej ac (.inr ⟨rfl,rfl⟩))))
 | .fY e th rest,l,n,c,h=>by
  have ac:=dc th l n _ (ej (y:=jX (bx l e) 0) h (.inr ⟨rfl,rfl⟩))
  exact dc rest _ _ _ (jF (ej ac (.inr ⟨rfl,rfl⟩)))
 | .ret rest,l,n,c,h=>dc rest _ _ _ (ej h (.inr ⟨rfl,rfl⟩))
theorem CZ(p:bC):Cj (hZ p):=λq bp=>by
 simp only[hZ,Iz] at bp;obtain⟨f,_,rfl⟩:=bp;exact ej (dc _ _ _ _ (by simp)) (.inr ⟨rfl,rfl⟩)
structure x0(u:ax):Prop where
 ok:cZ u
 sh:Cj u
theorem x0.FX{u:ax}{f:ao}(h:x0 u)(hF:bW u f):∃ck x,u.procs[f.proc.toNat]?=some ck/\ck.code[f.pc.toNat]?=some x/\f.proc.toNat<u.procs.length/\f.pc.toNat<ck.code.length/\0<=f.proc/\0<=f.pc/\(∃len:Nat,ck.code.length=len+1/\hf (bk u) ck.locals ck.aw len x)/\x.ints.length<=200/\x.places.length<=200/\(x.op≠8->f.pc+1<ck.code.length)/\pv (bk u) ck:=by
 obtain⟨ck,x,hp,U,hx,len,hl,ak,hn⟩:=oY h.ok hF;have ac:=(List.getElem?_eq_some_iff.1 hp).1;have J:=(List.getElem?_eq_some_iff.1 hx).1;have hlen:x.ints.length<=200/\x.places.length<=200:=by
  rcases h.sh ck (Ia hp) x (Ia hx) with aR|⟨aR,bv⟩
  .rcases ak with⟨bv,_⟩|⟨_,_,sg,_,hs,ct,Q,_⟩|⟨bv,_⟩|⟨bv,_⟩|⟨bv,_⟩|⟨bv,_⟩
   .omega
   .simp only[bk,List.getElem?_map] at hs
    cases bp:u.procs[x.target.toNat]? with
    | none=>rw[bp] at hs;cases hs
    | some r=>
     rw[bp] at hs;simp only[Option.map_some,IE] at hs;have aY:=h.ok.procs r (Ia bp);have:=aY.ints;have:=aY.aw;subst hs;simp only at ct Q;omega
   .omega
   .omega
   .omega
   .omega
  .rw[aR,bv];simp
 exact⟨ck,x,hp,hx,ac,J,hF.proc,hF.pc,⟨len,hl,ak⟩,hlen.1,hlen.2,hn,U⟩
def rZ(l:List Int)(t:Int):Int:=if t<0 then -1 else l.getD t.toNat (-1)
def ib(l:List Int):Nat->Int->Int
 | 0,t=>t
 | k+1,t=>if t<0 then t else ib l k (rZ l t)
def dJ(l:List Int):Prop:=∀x∈l,-1<=x/\x<l.length
section
variable {l:List Int}
theorem wa{t:Int}(h:t<0):∀k,ib l k t=t
 | 0=>rfl
 | k+1=>by rw[ib,if_pos h]
theorem kI:∀(a b:Nat) (t:Int),ib l (a+b) t=ib l b (ib l a t)
 | 0,b,t=>by rw[It];rfl
 | a+1,b,t=>by
  rw[show a+1+b=(a+b)+1 by omega,ib,ib];split
  .rename_i h;rw[wa h]
  .exact kI a b _
theorem A6(k:Nat)(t:Int):ib l (k+1) t=ib l 1 (ib l k t):=kI k 1 t
theorem mW(hl:dJ l)(t:Int):-1<=rZ l t/\rZ l t<l.length:=by
 unfold rZ;split
 .omega
 .rw[List.getD_eq_getElem?_getD]
  cases h:l[t.toNat]? with
  | none=>simp;omega
  | some x=>simpa using hl x (Ia h)
theorem w6(hl:dJ l){t:Int}(h0:-1<=t)(ac:t<l.length):∀k,-1<=ib l k t/\ib l k t<l.length:=by
 intro k
 induction k with
 | zero=>exact⟨h0,ac⟩
 | succ k aa=>
  rw[A6,ib];split
  .exact aa
  .exact mW hl _
theorem dI{t:Int}(h:0<=ib l k t)(a1:j<=k):0<=ib l j t:=by
 rcases Int.lt_or_le (ib l j t) 0 with hn|hn
 .have:=kI (l:=l) j (k - j) t;rw[show j+(k - j)=k by omega,wa hn] at this;omega
 .exact hn
theorem nD:∀(n:Nat) (m:List Nat),m.Nodup->(∀x∈m,x<n)->m.length<=n
 | 0,[],_,_=>Hx _
 | 0,x::m,_,h=>absurd (h x (by simp)) ad
 | n+1,m,hn,h=>by
  have aa:=nD n (m.erase n) (hn.erase n) λx hx=>by
   have ac:=h x (List.mem_of_mem_erase hx);have J:x≠n:=λe=>by
    subst e;exact(List.Nodup.not_mem_erase hn) hx
   omega
  rw[List.length_erase] at aa;split at aa<;>omega
theorem w7(hl:dJ l){t:Int}(ac:t<l.length)(h:0<=ib l l.length t):∃i j,i<j/\j<=l.length/\ib l i t=ib l j t:=by
 have h0:0<=t:=dI (j:=0) h (Ix _);refine Classical.byContradiction λct=>?_;have bI:((List.range (l.length+1)).map λk=>(ib l k t).toNat).Nodup:=by
  rw[List.Nodup,List.pairwise_iff_getElem];intro i j ak a1 u heq;simp only[Ib,List.length_range] at ak a1;simp only[List.getElem_map,List.getElem_range] at heq;have gK:=dI (j:=i) h ad;have eG:=dI (j:=j) h ad;exact ct ⟨i,j,u,ad,ad⟩
 have:=nD l.length _ bI λx hx=>by
  obtain⟨k,ap,rfl⟩:=Iz.1 hx;have a:=List.mem_range.1 ap;have J:=dI (j:=k) h ad;have aR:=(w6 hl ad ac k).2;omega
 simp only[Ib,List.length_range] at this;omega
def p4(l:List Int)(t:Int):Prop:=∀k,0<=ib l k t
theorem sr{c:Int}{d:Nat}(h:ib l d c=c):∀m,ib l (m*d) c=c
 | 0=>by rw[Nat.zero_mul];rfl
 | m+1=>by rw[Nat.succ_mul,kI,sr h m,h]
theorem tO{c:Int}(h0:0<=c)(hd:0<d)(h:ib l d c=c):p4 l c:=λk=>by
 refine dI (k:=k*d) (by rw[sr h];exact h0) ?_;exact Nat.le_mul_of_pos_right k hd
theorem ou(hl:dJ l){t:Int}(ac:t<l.length)(h:0<=ib l l.length t):p4 l t:=by
 obtain⟨i,j,u,a1,he⟩:=w7 hl ac h;have hc:=dI (j:=i) h ad;have hd:ib l (j - i) (ib l i t)=ib l i t:=by rw[<-kI,show i+(j - i)=j by omega,he]
 have I:=tO hc ad hd;intro k;have:=I k;rw[<-kI] at this;exact dI this ad
theorem p4.next{t:Int}(h:p4 l t):p4 l (rZ l t):=λk=>by
 have h0:=h 0;have:=h (k+1);rw[ib,if_neg (by exact Int.not_lt.2 h0)] at this;exact this
def ni(l:List Int):List Int:=((List.range l.length).map Int.ofNat).filter λt=>decide (0<=ib l (l.length+1) t)
theorem kL(hl:dJ l){t:Int}:t∈ni l↔0<=t/\t<l.length/\p4 l t:=by
 unfold ni;rw[List.mem_filter];constructor
 .rintro⟨ac,J⟩;obtain⟨k,ap,rfl⟩:=Iz.1 ac;have a:=List.mem_range.1 ap;have i:0<=ib l (l.length+1) (Int.ofNat k):=by simpa using J
  exact⟨Int.natCast_nonneg k,by show (k:Int)<_;omega,ou hl (by show (k:Int)<_;omega) (dI i ad)⟩
 .rintro⟨h0,ac,J⟩;refine⟨Iz.2 ⟨t.toNat,List.mem_range.2 ad,by show ((t.toNat:Nat):Int)=t;omega⟩,by simpa using J _⟩
def cy(l:List Int)(k:Nat)(t:Nat):Bool:=decide (t<l.length) && decide (0<=ib l k (t:Int))
def jc(l:List Int)(f:Nat->Bool)(t:Nat):Bool:=decide (t<l.length) && f t && decide (0<=rZ l (t:Int)) && f (rZ l (t:Int)).toNat
theorem mq(hl:dJ l)(k t:Nat):jc l (cy l k) t=cy l (k+1) t:=by
 unfold jc cy;by_cases ht:t<l.length
 .have hs:ib l (k+1) (t:Int)=ib l k (rZ l t):=by rw[ib,if_neg ad]
  rw[hs];simp only[ht,decide_true,Bool.true_and];by_cases hn:0<=rZ l (t:Int)
  .have al:=(mW hl (t:Int)).2;have e:((rZ l (t:Int)).toNat:Int)=rZ l t:=ad;have du:(rZ l (t:Int)).toNat<l.length:=ad;rw[e];simp only[hn,du,decide_true,Bool.and_true,Bool.true_and];by_cases aA:0<=ib l k (rZ l (t:Int))
   .have:0<=ib l k (t:Int):=dI (k:=k+1) (by rw[hs];exact aA) ad;simp[aA,this]
   .simp[aA]
  .have aA:¬0<=ib l k (rZ l (t:Int)):=λh=>hn (dI (j:=0) h (Ix _));simp[hn,aA]
 .simp[ht]
theorem qH(hl:dJ l){k:Nat}(h:∀t,t<l.length->cy l (k+1) t=cy l k t):∀m t,t<l.length->cy l (k+m) t=cy l k t
 | 0,t,_=>rfl
 | m+1,t,ht=>by
  have aa:=qH hl h m;rw[show k+(m+1)=(k+m)+1 by omega,<-mq hl,<-h t ht,<-mq hl];unfold jc;have e1:∀t,t<l.length->cy l (k+m) t=cy l k t:=aa;rw[e1 t ht];by_cases hn:0<=rZ l (t:Int)
  .have al:=(mW hl (t:Int)).2;rw[e1 (rZ l (t:Int)).toNat ad]
  .simp[hn]
theorem xy(hl:dJ l)(h:∀t,t<l.length->cy l (k+1) t=cy l k t){t:Nat}(ht:t<l.length):cy l k t=true↔(t:Int)∈ni l:=by
 rw[kL hl];have ac:=qH hl h l.length t ht;constructor
 .intro ap;rw[ap] at ac;have J:0<=ib l (k+l.length) (t:Int):=by simpa[cy,ht] using ac
  exact⟨ad,ad,ou hl ad (dI J ad)⟩
 .rintro⟨_,_,I⟩;simp[cy,ht,I k]
theorem sZ{t:Nat}(h:cy l (k+1) t=true):cy l k t=true:=by
 unfold cy at *;simp only[Il,IG] at h ⊢;exact⟨h.1,dI h.2 ad⟩
end
def e6(u:ax)(s:ah)(t:Int):Option (Int×Int):=
 match dt s t,dx u s t with
 | some f,some x=>if x.op=4 then
   if (bj u s f x.place).2≠0 then none else if free u.af s.table (bj u s f x.place).1 t=true then none
   else some ((bj u s f x.place).1,(iW s.table (bj u s f x.place).1).owner - 1) else none
 | _,_=>none
def Gk(u:ax)(s:ah)(t:Int):Bool:=(dx u s t).isSome && (e6 u s t).isNone
def kd:Option (Int×Int)->Int
 | none=>-1
 | some r=>r.2
def da(u:ax)(s:ah):List Int:=(List.range s.threads.length).map λt:Nat=>kd (e6 u s (t:Int))
section
variable {u:ax} {D:Nat} {s:ah} {t:Int}
theorem sy(h:dt s t=none):dx u s t=none:=by unfold dx;rw[h];rfl
theorem Cf(h:(s.threads.length:Int)<=t):dt s t=none:=by
 unfold dt;split
 .rfl
 .rw[List.getElem?_eq_none ad];rfl
theorem Ce(h:t<0):dt s t=none:=by unfold dt;rw[if_pos (.inr h)]
theorem vo(h:dt s t=none):e6 u s t=none:=by unfold e6;rw[h]
theorem jK{r:Int×Int}(h:e6 u s t=some r):∃f x,dt s t=some f/\dx u s t=some x/\x.op=4/\(bj u s f x.place).2=0/\free u.af s.table (bj u s f x.place).1 t=false/\
  r=((bj u s f x.place).1,(iW s.table (bj u s f x.place).1).owner - 1):=by
 unfold e6 at h;split at h
 .rename_i f x aA hx;split at h
  .rename_i ch;split at h
   .cases h
   .rename_i E;split at h
    .cases h
    .rename_i a1;injection h with h;exact⟨f,x,aA,hx,ch,ad,by simpa using a1,h.symm⟩
  .cases h
 .cases h
theorem CM(hU:cZ u)(hS:aV u D s):Gk u s t=(bs u s t).2:=by
 unfold Gk e6 bs
 cases aA:dt s t with
 | none=>rw[sy aA];rfl
 | some f=>
  cases hx:dx u s t with
  | none=>rfl
  | some x=>
   simp only[Option.isSome_some,Bool.true_and];unfold cq;by_cases ac:x.op=1\/x.op=6
   .rw[if_pos ac,if_neg ad];simp only[]
    repeat' split
    all_goals rfl
   .rw[if_neg ac];by_cases J:x.op=2\/x.op=3
    .rw[if_pos J,if_neg ad];simp only[]
     repeat' split
     all_goals rfl
    .rw[if_neg J];by_cases bv:x.op=4
     .rw[if_pos bv,if_pos (Or.inl bv)];simp only[bv,if_true]
      repeat' split
      all_goals first|rfl|simp_all
     .rw[if_neg bv];simp only[]
      repeat' split
      all_goals first|rfl|omega
theorem ir:(da u s).length=s.threads.length:=by simp[da]
theorem w9(hS:aV u D s)(e:Int):0<=(iW s.table e).owner/\(iW s.table e).owner<=s.threads.length:=by
 unfold iW
 cases h:s.table[e.toNat]? with
 | none=>simp
 | some x=>simpa using (hS.holds _ x h).owner
theorem ui(hS:aV u D s):dJ (da u s):=by
 intro x hx;obtain⟨k,ap,rfl⟩:=Iz.1 hx;rw[ir];have hn:=hS.xE
 cases h:e6 u s (k:Int) with
 | none=>simp only[kd];omega
 | some r=>
  obtain⟨f,x,_,_,_,_,_,rfl⟩:=jK h;have:=w9 hS (bj u s f x.place).1;simp only[kd];omega
def jB:VE->Prop
 | .iq _=>False
 | .un _ x=>jB x
 | .bin _ x y=>jB x/\jB y
 | _=>True
theorem kD(g al l:List Int):∀x:VE,jB x->ev g l x=ev al l x
 | .num _,_=>rfl
 | .gI _,_=>rfl
 | .loc _,_=>rfl
 | .iq _,h=>h.elim
 | .un op x,h=>by
  have aa:=kD g al l x h
  simp only[ev,aa]
 | .bin op x y,h=>by
  have i:=kD g al l x h.1;have c:=kD g al l y h.2;simp only[ev,i,c]
structure vA(u:ax)(s:ah)(t e o:Int):Prop where
 waits:e6 u s t=some (e,o)
 o0:0<=o
 jB:∀x v,dx u s t=some x->x.place.at_=some v->jB v
theorem tY{bP:ah}{f:ao}{p:bK}(h:∀v,p.at_=some v->jB v):bj u bP f p=bj u s f p:=by
 have ak:cF u bP f p=cF u s f p:=by
  unfold cF
  cases hp:p.at_ with
  | none=>rfl
  | some v=>simp only[kD bP.globals s.globals f.ints v (h v hp)]
 unfold bj;rw[ak]
theorem vA.al{bP:ah}(h:vA u s t e o)(ht:dt bP t=dt s t)(aG:iW bP.table e=iW s.table e):vA u bP t e o:=by
 obtain⟨f,x,aA,hx,ch,E,a1,aY⟩:=jK h.waits;have g:dx u bP t=some x:=by
  unfold dx at hx ⊢;rw[ht];exact hx
 have he:=tY (u:=u) (s:=s) (bP:=bP) (f:=f) (p:=x.place) λv bC=>h.jB x v hx bC;injection aY with ar bx;refine⟨?_,h.o0,λy v a4 bC=>?_⟩
 .unfold e6;rw[ht,aA,g];simp only[];rw[if_pos ch,he,if_neg ad];have a:free u.af bP.table (bj u s f x.place).1 t=false:=by
   rw[<-ar];rw[<-ar] at a1;unfold free at a1 ⊢;rw[aG];exact a1
  rw[if_neg (by simp[a]),<-ar,aG,<-ar] at *;simp[bx]
 .rw[g] at a4;injection a4 with a4;subst a4;exact h.jB x v hx bC
theorem hh{l:List (List ao)}{i:Nat}{g:List ao->List ao}(h:i≠j):(l.modify i g)[j]?=l[j]?:=by
 rw[List.getElem?_modify]
 cases l[j]? with
 | none=>rfl
 | some y=>simp[h]
theorem tg{s bP:ah}(aA:bP.fault=s.fault)(h:bP.threads[t.toNat]?=s.threads[t.toNat]?):dt bP t=dt s t:=by
 unfold dt;rw[aA,h]
theorem uZ(hU:cZ u){p:Int}(ht:0<=t/\t<s.threads.length)(hp:p≠t)(dQ:s.fault=0)(aA:(bs u s p).1.fault=0):dt (bs u s p).1 t=dt s t:=by
 refine tg (aA.trans dQ.symm) ?_;unfold bs at aA ⊢
 cases bp:dt s p with
 | none=>rfl
 | some f=>
  have i:0<=p:=(jj bp).2.1;have aZ:p.toNat≠t.toNat:=ad
  cases hx:dx u s p with
  | none=>rfl
  | some x=>
   simp only[];unfold cq;simp only[]
   repeat' split
   all_goals simp only[bf,pw,sM]
   all_goals first
    | rfl
    | exact hh aZ
    | (rw[hh aZ];exact hh aZ)
    | (rw[List.getElem?_append_left (by rw[List.length_modify];omega)];exact hh aZ)
theorem Bs{T:List cQ}{l p:Int}(h0:0<=bU X e\/True)(he:0<=e)(bu:(iW T e).owner≠0)(hp:(iW T e).owner≠p+1):iW (g9 X T l p) e=iW T e:=by
 unfold g9;split
 .rename_i a1;by_cases g:l=e
  .subst g;unfold free at a1;simp[bu,hp] at a1
  .have a:0<=l:=by
    unfold free at a1;simp only[Il,IG] at a1;exact(fE.1 a1.1.1).1
   unfold iW;rw[List.getElem?_set_ne ad]
 .rfl
theorem vm{T:List cQ}{l p:Int}(he:0<=e)(hp:(iW T e).owner≠p+1):iW (dE X T l p) e=iW T e:=by
 unfold dE;split
 .rename_i aG;by_cases g:l=e
  .subst g;unfold heldBy at aG;simp[hp] at aG
  .have a:0<=l:=by
    unfold heldBy at aG;simp only[Il,IG] at aG;exact(fE.1 aG.1.1).1
   unfold iW;rw[List.getElem?_set_ne ad]
 .rfl
theorem va{p:Int}(he:0<=e)(bu:(iW s.table e).owner≠0)(hp:(iW s.table e).owner≠p+1):iW (bs u s p).1.table e=iW s.table e:=by
 unfold bs
 cases bp:dt s p with
 | none=>rfl
 | some f=>
  cases hx:dx u s p with
  | none=>rfl
  | some x=>
   simp only[];unfold cq;simp only[]
   repeat' split
   all_goals first
    | rfl
    | exact Bs (.inr trivial) he bu hp
    | exact vm he hp
theorem jG(h:(bs u s t).2=false):(bs u s t).1=s:=by
 unfold bs at h ⊢
 cases bp:dt s t with
 | none=>rfl
 | some f=>
  cases hx:dx u s t with
  | none=>rfl
  | some x=>
   rw[bp,hx] at h;simp only[] at h ⊢;unfold cq at h ⊢;simp only[] at h ⊢
   repeat' split
   all_goals first
    | rfl
    | (exfalso;simp_all;done)
    | (exfalso;revert h;repeat' split;all_goals simp_all)
theorem tk(hU:cZ u)(hS:aV u D s)(h:e6 u s t=some (e,o)):0<=e/\(iW s.table e).owner=o+1/\0<=t/\t<s.threads.length:=by
 obtain⟨f,x,aA,hx,ch,E,a1,aY⟩:=jK h;injection aY with ar bx;have ht:=hS.top aA;refine⟨?_,by rw[ar];omega,ht.2.1,ht.2.2⟩;obtain⟨p,y,hp,U,a4,len,hlen,ak,_⟩:=oY hU ht.1;have c:x=y:=by
  unfold dx at hx;rw[aA] at hx;simp only[Option.bind_some,hp,a4,IE] at hx;exact hx.symm
 subst c;obtain⟨q,bp,_,_,ap⟩:=ht.1.ex;rw[hp] at bp;injection bp with bp;subst bp;have b3:cP (bk u) p.locals p.aw x.place:=by
  rcases ak with⟨ac,_⟩|⟨ac,_⟩|⟨ac,_,J⟩|⟨ac,_⟩|⟨ac,_⟩|⟨ac,_⟩
  .omega
  .omega
  .exact J
  .omega
  .omega
  .omega
 have:=(iP (s:=s) hU ht.1 ad b3).2 ad;rw[ar];exact this.1
theorem rR{r:Int×Int}(h:e6 u s t=some r):Gk u s t=false:=by unfold Gk;rw[h];simp
def oi(u:ax)(s:ah)(d:List Int):Prop:=∀t∈d,∃e o,vA u s t e o/\o∈d
theorem oi.step{d:List Int}(hU:cZ u)(hS:aV u D s)(h:oi u s d)(p:Int)(aA:(bs u s p).1.fault=0):oi u (bs u s p).1 d:=by
 by_cases hp:p∈d
 .obtain⟨e,o,hs,_⟩:=h p hp;rw[jG (by rw[<-CM hU hS];exact rR hs.waits)];exact h
 .intro t ht;obtain⟨e,o,hs,bu⟩:=h t ht;obtain⟨f,x,az,_⟩:=jK hs.waits;obtain⟨ac,J,aR,bv⟩:=tk hU hS hs.waits;have dH:p≠t:=λe=>hp (by rw[e];exact ht);have dp:p≠o:=λe=>hp (by rw[e];exact bu);have h0:=hs.o0;exact⟨e,o,hs.al (uZ hU ⟨aR,bv⟩ dH (jj az).1 aA) (va ac ad ad),bu⟩
end
def fL(u:ax):ah->List Int->ah
 | s,[]=>s
 | s,t::l=>fL u (bs u s t).1 l
def dC(u:ax):ah->List Int->List Int
 | _,[]=>[]
 | s,t::l=>(if (bs u s t).2 then [t] else [])++dC u (bs u s t).1 l
def m1(s:ah):List Int:=(List.range s.threads.length).map Int.ofNat
section
variable {u:ax} {D:Nat}
theorem je:∀(l m:List Int) (s:ah),fL u s (l++m)=fL u (fL u s l) m
 | [],_,_=>rfl
 | t::l,m,s=>je l m _
theorem kp:∀(l m:List Int) (s:ah),dC u s (l++m)=dC u s l++dC u (fL u s l) m
 | [],_,_=>rfl
 | t::l,m,s=>by
  rw[Ip,dC,dC,fL,kp l m,Io]
theorem Ck(l:List Int):∀s:ah,(dC u s l).length<=l.length:=by
 induction l with
 | nil=>intro s;exact Hx _
 | cons t l aa=>
  intro s;have:=aa (bs u s t).1;rw[dC,Hz,Im];split<;>simp<;>omega
theorem BU(hU:cZ u):∀(l:List Int) (D:Nat) (s:ah),aV u D s->aV u (D+l.length) (fL u s l)
 | [],_,_,h=>h
 | t::l,D,s,h=>by
  have:=BU hU l (D+1) _ (B9 (t:=t) hU h);rw[Im,show D+(l.length+1)=D+1+l.length by omega];exact this
end
section
variable {u:ax} {D:Nat}
theorem wB:∀(l:List Int) (s:ah),fL u s (dC u s l)=fL u s l
 | [],_=>rfl
 | t::l,s=>by
  rw[dC,je,fL]
  cases h:(bs u s t).2 with
  | true=>rw[if_pos rfl];exact wB l _
  | false=>
   rw[if_neg (by simp),jG h];exact wB l s
theorem wI:∀(l:List Int) (s:ah),dC u s (dC u s l)=dC u s l
 | [],_=>rfl
 | t::l,s=>by
  rw[dC]
  cases h:(bs u s t).2 with
  | true=>
   rw[if_pos rfl,List.singleton_append,dC,h,if_pos rfl,wI l]
   try rfl
  | false=>
   rw[if_neg (by simp),IC,jG h];exact wI l s
end
end Go.Proofs.YtajlmkkidmjgoaaGreatDoor
