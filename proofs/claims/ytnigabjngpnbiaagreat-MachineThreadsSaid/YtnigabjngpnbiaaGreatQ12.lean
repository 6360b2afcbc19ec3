/- Part 12 of the proof. No condition of its own. -/
import Derived.Test.YtnigabjngpnbiaaGreatQ09
import Derived.Test.YtnigabjngpnbiaaGreatQ11
namespace Go.Proofs.YtnigabjngpnbiaaGreat
open Go.RowKit Go.Proofs.Tryz
set_option maxRecDepth 1000000
set_option maxHeartbeats 25600000
set_option linter.unusedVariables false
variable{a:Act}{K:Act->World->Prop}{l:List Int}{cs:List Value}{k n s sz:Nat}{o:Oper}{A:Kj}{rest:PT}{G p:Prop}{α β γ:Type}{J b r w:World}
section
variable {P:Program} {q:Nat->Prop} {B:Nat} {e t:TypeId} {z:Value} {size bytes:Nat}
theorem kb{Q:Exit->Act->World->Prop}(bu:cA P t e z size bytes)(s x:Operand)
  (bb:o.op=.call {callee:=.builtin .append,args:=#[s,x],argTypes:=#[t,t]})
  {A:Kj} {n c g:Nat} {l:List D} (h0:Gr q B e size r A n c l) {d:D} {cs:Array Value} {f:TypeId} (aK:au r g f cs) (hd:d.rep r (mS q r (.slice A n c)) cs.toList)
  (hs:a.eval s=.slice A n c) (hx:a.eval x=.slice (some ⟨g,0,none⟩) 1 1) (aB:cs.size=size)
  (y:(n+1)*bytes<=140737488355328) (G:n+1<=140737488355328) (C:B<=r.heap.size)
  (h:∀a1 aW J,Gr q B e size J a1 (n+1) aW (l++[d])->Fr (λb=>(Value.slice A n c).ownBlock=some b) r J->fT r A n c a1 (n+1) aW->n+1<=aW->K (a.put o.dst (.slice a1 (n+1) aW)) J):o.wp P a r K Q:=by
 obtain⟨hl,xs,ac,ap⟩:=h0;have ay:Src r size (some ⟨g,0,none⟩) 1 cs.toList:=⟨by simpa using aB,D.rF _ _ hd,λ_=>⟨g,0,rfl,λj u be=>by
  rw[J0,aK.cell];simpa using be⟩⟩
 refine ka _ bu s x bb B _ n xs hs ac _ 1 1 cs.toList hx ay y G C (λh=>nomatch h) λH J bE cB aI=>?_;obtain⟨a1,aW,rfl,hc,_⟩:=cj bE;refine h a1 aW J (Gr.snoc hl ac ap hd (s:=r.heap.size) (JI _) bE cB aI) (Kf.grown cB λg aS=>.inl aS) (λb O=>?_) hc;exact yi
theorem G2{Q:Exit->Act->World->Prop}(bu:cA P t e z size bytes)(s x:Operand)
  (bb:o.op=.call {callee:=.builtin .append,args:=#[s,x],argTypes:=#[t,t]})
  {A bg:Kj} {n c m c2:Nat} {l k:List D} {co:List Value} (h0:Gr q B e size r A n c l) (aZ:D.aR r (mS q r (.slice A n c)) k co) (aj:k.length=m) (ay:Src r size bg m co) (hn:bg=none->m=0)
  (hs:a.eval s=.slice A n c) (hx:a.eval x=.slice bg m c2)
  (y:(n+m)*bytes<=140737488355328) (G:n+m<=140737488355328) (C:B<=r.heap.size)
  (h:∀a1 aW J,Gr q B e size J a1 (n+m) aW (l++k)->Fr (λb=>(Value.slice A n c).ownBlock=some b) r J->fT r A n c a1 (n+m) aW->n+m<=aW->K (a.put o.dst (.slice a1 (n+m) aW)) J):o.wp P a r K Q:=by
 obtain⟨hl,xs,ac,ap⟩:=h0;refine ka _ bu s x bb B _ n xs hs ac _ m c2 co hx ay y G C hn λH J bE cB aI=>?_;obtain⟨a1,aW,rfl,hc,_⟩:=cj bE;refine h a1 aW J (Gr.HN hl aj ac ap aZ (s:=r.heap.size) (JI _) bE cB aI) (Kf.grown cB λg aS=>.inl aS) (λb O=>?_) hc;exact yi
theorem lr{Q:Exit->Act->World->Prop}(bu:cA P t e z size bytes)(s x:Operand)
  (bb:o.op=.call {callee:=.builtin .append,args:=#[s,x],argTypes:=#[t,t]})
  {bg:Kj} {g m c2:Nat} {k:List D} {co:List Value} (h0:Gr q B e size r (some ⟨g,0,none⟩) 0 0 []) (aZ:D.aR r (mS q r (.slice (some ⟨g,0,none⟩) 0 0)) k co) (aj:k.length=m) (ay:Src r size bg m co) (hn:bg=none->m=0)
  (hs:a.eval s=.slice (some ⟨g,0,none⟩) 0 0) (hx:a.eval x=.slice bg m c2)
  (y:m*bytes<=140737488355328) (G:m<=140737488355328) (C:B<=r.heap.size)
  (h:∀a1 aW J,Gr q B e size J a1 m aW k->Fr (λb=>b=g) r J->(∀b,(Value.slice a1 m aW).ownBlock=some b->b=g\/r.heap.size<=b)->m<=aW->K (a.put o.dst (.slice a1 m aW)) J):o.wp P a r K Q:=by
 refine G2 bu s x bb h0 aZ aj ay hn hs hx (by rw[J0];exact y) ad C λa1 aW J bX g2 cv cR=>?_;simp only[J0,J8] at bX cv cR ⊢;exact h a1 aW J bX (g2.mono λb O=>by simp[Value.ownBlock] at O;exact O.symm) (λb O=>(cv b O).imp (λh=>by simp[Value.ownBlock] at h;exact h.symm) id) cR
end
section
variable {P:Program} {ops:Array Oper} {Q:Exit->Act->World->Prop} {R:World->World->Prop} {tails:List Nat}
theorem lh{δ:Type}{aa:α->β->γ->δ->Act}{C:α->β->γ->δ->World->Prop}(h:(∀x y z u V,C x y z u V->cW P ops Q R tails rest (aa x y z u) V)->G)(key:∀x y z u V,C x y z u V->cW P ops Q R tails rest (aa x y z u) V):G:=h key
theorem po{aa:α->β->γ->Act}{C:α->β->γ->World->Prop}(h:(∀x y z V,C x y z V->cW P ops Q R tails rest (aa x y z) V)->G)(key:∀x y z V,C x y z V->cW P ops Q R tails rest (aa x y z) V):G:=h key
theorem pk{aa:α->β->Act}{C:α->β->World->Prop}(h:(∀x y V,C x y V->cW P ops Q R tails rest (aa x y) V)->G)(key:∀x y V,C x y V->cW P ops Q R tails rest (aa x y) V):G:=h key
theorem vp{aa:α->Act}{C:α->World->Prop}(h:(∀x V,C x V->cW P ops Q R tails rest (aa x) V)->G)(key:∀x V,C x V->cW P ops Q R tails rest (aa x) V):G:=h key
end
theorem GC{a:World}(ac:Ext w a)(ap:Ext w b)(hs:a.heap.size=w.heap.size+1)(bz:a.heap.size<=b.heap.size):Fr (λk=>k=w.heap.size) a b:=
 ⟨ap.os.trans ac.os.symm,ap.tape.trans ac.tape.symm,ap.output.trans ac.output.symm,bz,λk aj hn=>(ap.block k ad λh=>h).trans (ac.block k ad λh=>h).symm⟩
theorem uj{P:Nat->Prop}{v:Value}{d:D}(h:d.rep w (mS P w v) cs)(he:Ext w J):d.rep J (mS P J v) cs:=
 D.aA (λb O=>⟨O.1,JJ O.2.1 he.size,O.2.2⟩) _ _ (D.aD (λb O=>he.block b O.2.1 λh=>h) _ _ h)
structure gy(s:Nat)(w J:World):Prop where
 os:J.os=w.os
 tape:J.tape=w.tape
 output:J.output=w.output
 size:w.heap.size<=J.heap.size
 block:∀k,k<w.heap.size->k≠s->J.heap[k]?=w.heap[k]?
theorem gy.refl(s:Nat)(w:World):gy s w w:=⟨rfl,rfl,rfl,JI _,λ_ _ _=>rfl⟩
theorem gy.trans{s:Nat}{a b c:World}(h:gy s a b)(k:gy s b c):gy s a c:=
 ⟨k.os.trans h.os,k.tape.trans h.tape,k.output.trans h.output,JZ h.size k.size,λi I hn=>(k.block i (JJ I h.size) hn).trans (h.block i I hn)⟩
theorem gy.of{a:World}(h:Below a.heap.size a b):gy s a b:=⟨h.os,h.tape,h.output,h.size,λk aj _=>h.block k aj⟩
theorem gy.below{a:World}(h:gy s a b)(hs:s<=a.heap.size):Below s a b:=⟨h.os,h.tape,h.output,h.size,λk aj=>h.block k ad ad⟩
theorem gy.setCell{s:Nat}{a b:World}(h:gy s a b)(j:Nat)(v:Value):gy s a (b.setCell ⟨s,j,none⟩ v):=by
 refine⟨h.os,h.tape,h.output,by simpa using h.size,λk aj hn=>?_⟩;rw[Below.heap_setCell _ _ _ _ hn];exact h.block k aj hn
theorem gy.drew{s:Nat}{a b:World}(h:gy s a b):gy s a b.drew:=⟨h.os,h.tape,h.output,h.size,h.block⟩
theorem gy.cell{s:Nat}{a b:World}(h:gy s a b){k j:Nat}(aj:k<a.heap.size)(hn:k≠s):b.cell? ⟨k,j,none⟩=a.cell? ⟨k,j,none⟩:=World.cell?_of_block (h.block k aj hn)
structure fm(w:World)(s:Nat)(A:Kj)(n c:Nat)(l:List Int):Prop where
 lt:s<w.heap.size
 c0:w.cell? ⟨s,0,none⟩=some (.slice A n c)
 c1:∃i:Nat,i<=n/\w.cell? ⟨s,1,none⟩=some (.int .i64 i)
 fz:w.frozen? ⟨s,1,none⟩=false
 ls:cB (EF dr) 1 w s A n l
 hn:n<=1000
theorem fm.on{c:Nat}(h:fm w s A n c l)(O:Below w.heap.size w J):fm J s A n c l:=by
 have aq:=h.lt;refine⟨JJ h.lt O.size,?_,?_,?_,h.ls.ep (O.mono ad),h.hn⟩
 .exact(O.cell (p:=⟨s,0,none⟩) aq).trans h.c0
 .obtain⟨i,I,hc⟩:=h.c1;exact⟨i,I,(O.cell (p:=⟨s,1,none⟩) aq).trans hc⟩
 .exact(O.frozen (p:=⟨s,1,none⟩) aq).trans h.fz
theorem Sl.H5{enc:α->D}{f:α->List Value}(aA:∀(w:World) (P:Nat->Prop) (x:α) (cs:List Value),(enc x).rep w P cs->cs=f x)(bi:∀x,(enc x).sz=sz)
  {w:World} {A:Kj} {n:Nat} {l:List α} (h:Sl w (ao w) A n (l.map enc)):cB (EF f) sz w w.heap.size A n l:=by
 have hl:l.length=n:=by rw[<-h.1,JM]
 refine⟨hl,λhn=>?_⟩;obtain⟨b,o,bu,O⟩:=h.some_ hn;refine⟨b,o,bu,O,λk x hx=>?_⟩;have aj:k<n:=by have:=(List.getElem?_eq_some_iff.1 hx).1;omega
 obtain⟨Y,ai,y,cs,am,_,aa,aZ,aS,hc⟩:=h.iG bi aj;rw[bu] at am;injection am with am;injection am with ac ap;subst ac ap;rw[hx] at aa;injection aa with aa;subst aa;exact⟨cs,aA _ _ _ _ aZ,aS,hc⟩
theorem lV{α:Type}{enc:α->D}{f:α->List Value}{w:World}{P:Nat->Prop}(aA:∀x,(enc x).rep w P (f x)):∀l:List α,D.aR w P (l.map enc) (l.flatMap f)
 | []=>by simp only[J5,D.aR,List.flatMap_nil]
 | x::l=>by
  rw[JO,J2];simp only[D.aR];exact⟨_,_,rfl,aA x,lV aA l⟩
theorem cB.sl{enc:α->D}{f:α->List Value}{P:Nat->Prop}{B:Nat}{l:List α}(aA:∀x,(enc x).rep w P (f x))(hs:∀x,(f x).length=sz)(h0:0<sz)
  (h:cB (EF f) sz w B A n l) (S:∀b,b<B->P b):Sl w P A n (l.map enc):=by
 refine⟨by rw[JM,h.1],λhn=>?_⟩;obtain⟨b,o,bu,O,hc⟩:=h.2 hn;refine⟨b,o,l.flatMap f,bu,S b O,lV aA l,λj u be=>?_⟩;have bF:=(List.getElem?_eq_some_iff.1 be).1;rw[fF f sz l λx _=>hs x] at bF;have aT:j / sz<l.length:=by rw[Nat.div_lt_iff_lt_mul h0];exact bF
 have hx:l[j / sz]?=some (l[j / sz]'aT):=List.getElem?_eq_getElem aT;have d:=Nat.mod_lt j h0;have a:j / sz*sz+j % sz=j:=Nat.div_add_mod' j sz;have b3:=fb f sz l (λx _=>hs x) _ _ hx (j % sz) d;rw[a,be] at b3;obtain⟨cs,he,_,c⟩:=hc _ _ hx;rw[EF] at he;subst he;have:=c _ _ b3.symm
 rwa [Nat.add_assoc,a] at this
theorem wz{P:Nat->Prop}{x:Int}:(D.i x).rep w P cs↔cs=dr x:=by simp only[D.rep,dr]
theorem Sl.ints(h:Sl w (ao w) A n (l.map D.i)):cB (EF dr) 1 w w.heap.size A n l:=Sl.H5 (enc:=D.i) (f:=dr) (λ_ _ _ _=>wz.1) (λ_=>rfl) h
theorem cB.ints{P:Nat->Prop}{B:Nat}(h:cB (EF dr) 1 w B A n l)(S:∀b,b<B->P b):Sl w P A n (l.map D.i):=cB.sl (enc:=D.i) (f:=dr) (λ_=>wz.2 rfl) (λ_=>rfl) (by decide) h S
theorem ih{P:Nat->Prop}{m:bI}:(eL m).rep w P cs↔cs=fO m:=by
 unfold eL;rw[bK,dj];constructor
 .rintro⟨y,rfl,h⟩;rw[eN] at h;exact yj
 .rintro rfl;exact⟨_,rfl,eN.2 ⟨_,rfl,bm.2 ⟨_,rfl,aS.2 rfl⟩⟩⟩
theorem sQ{P:Nat->Prop}{m:cp}:(kE m).rep w P cs↔cs=bA m:=by
 unfold kE;rw[bK,bm];exact Cl
theorem Sl.na{l:List bI}(h:Sl w (ao w) A n (l.map eL)):cB (EF fO) 3 w w.heap.size A n l:=Sl.H5 (enc:=eL) (f:=fO) (λ_ _ _ _=>ih.1) (λ_=>rfl) h
theorem cB.na{P:Nat->Prop}{B:Nat}{l:List bI}(h:cB (EF fO) 3 w B A n l)(S:∀b,b<B->P b):Sl w P A n (l.map eL):=cB.sl (enc:=eL) (f:=fO) (λ_=>ih.2 rfl) (λ_=>rfl) (by decide) h S
theorem Sl.holds{l:List cp}(h:Sl w (ao w) A n (l.map kE)):cB (EF bA) 2 w w.heap.size A n l:=Sl.H5 (enc:=kE) (f:=bA) (λ_ _ _ _=>sQ.1) (λ_=>rfl) h
theorem cB.holds{P:Nat->Prop}{B:Nat}{l:List cp}(h:cB (EF bA) 2 w B A n l)(S:∀b,b<B->P b):Sl w P A n (l.map kE):=cB.sl (enc:=kE) (f:=bA) (λ_=>sQ.2 rfl) (λ_=>rfl) (by decide) h S
section
attribute [local go_sem ↓] fH fI
def Fits(n:Int):Prop:=-9223372036854775808<=n/\n<=9223372036854775807
theorem m3(n:Int):Fits (wrap64 n):=by unfold Fits wrap64;omega
theorem lj(b:Bool):Fits (eH b):=by cases b<;>(unfold Fits eH;decide)
def VE.fit:VE->Prop
 | .num n=>Fits n
 | .eP _=>True
 | .loc _=>True
 | .hP _=>True
 | .un _ x=>x.fit
 | .bin _ x y=>x.fit/\y.fit
theorem qC(a b:Int)(bE:Fits a):Fits (a.tmod b):=by
 have c:=Int.natAbs_tmod a b;have hle:a.natAbs % b.natAbs<=a.natAbs:=Nat.mod_le _ _;rw[<-c] at hle;unfold Fits at *;rcases Int.lt_trichotomy a 0 with h|h|h
 .have ap:=Int.tmod_nonneg b (show 0<=-a by omega);rw[Int.neg_tmod] at ap;generalize a.tmod b=r at *;omega
 .subst h;simp
 .have ap:=Int.tmod_nonneg b (show 0<=a by omega);generalize a.tmod b=r at *;omega
theorem hv:Fits 0:=by unfold Fits;decide
theorem Dm:Fits 1:=by unfold Fits;decide
theorem tP(op a b:Int)(bE:Fits a):Fits (arith op a b).1:=by
 unfold arith
 repeat' split
 all_goals first|exact m3 _|exact lj _|exact qC _ _ bE|exact hv
theorem qh{g:List Int}(aS:∀x∈g,Fits x)(k:Nat):Fits (g.getD k 0):=by
 rw[List.getD_eq_getElem?_getD]
 cases h:g[k]? with
 | none=>exact hv
 | some v=>exact aS v (JL h)
theorem rl{g l:List Int}(aS:∀x∈g,Fits x)(hl:∀x∈l,Fits x):∀e:VE,e.fit->Fits (ev g l e).1
 | .num _,h=>h
 | .eP _,_=>hv
 | .loc _,_=>qh hl _
 | .hP _,_=>qh aS _
 | .un op x,_=>by
  rw[ev]
  repeat' split
  all_goals first|exact hv|exact m3 _|exact lj _
 | .bin op x y,h=>by
  rw[ev]
  repeat' split
  all_goals first|exact hv|exact Dm|exact lj _|exact tP _ _ _ (rl aS hl x h.1)
theorem EP(a b:Int)(bE:Fits a):wrap64 (a - wrap64 (wrap64 (a.tdiv b)*b))=a.tmod b:=by
 rw[nj,mG,show a - a.tdiv b*b=a.tmod b by have:=Int.tdiv_mul_add_tmod a b;omega];exact IntWalk.wrap64_in _ (qC a b bE)
structure mI(g l:List Int)(e:VE):Prop where
 fg:∀x∈g,Fits x
 fl:∀x∈l,Fits x
 fe:e.fit
def h8(e:VE):Prop:=∀(w:World) (G L:Kj) (ng nl t cl:Nat) (g l:List Int) (c0 c1 c2 c3:Value),kQ w G L ng nl g l e [c0,c1,c2,c3]->mI g l e->
 Calls prog 73 #[.agg #[c0,c1,c2,c3],.slice G ng t,.slice L nl cl] w (fx w (ev g l e))
theorem EO(n:Int):h8 (.num n):=by
 intro w G L ng nl t cl g l c0 c1 c2 c3 h _;obtain⟨nm,A,c,aB⟩:=h.rep;injection aB with h0 aB;injection aB with ac aB;injection aB with ap aB;injection aB with aD aB;subst h0 ac ap aD;clear h aB;go_enter func73,ntmps73;go_wp2
 go_ret2
 exact ts
theorem wy(e:VE)(k:Int)(he:e=.loc k\/e=.hP k):h8 e:=by
 intro w G L ng nl t cl g l c0 c1 c2 c3 h _;have a:=(Below.refl w.heap.size w).alloc (JI _) (.cells #[c0,c1,c2,c3] 72);have aH:=h.gs.eQ a a.size;have bZ:=h.ls.eQ a a.size;clear a;have b2:=h.ok;rcases he with rfl|rfl
 all_goals
  obtain⟨nm,A,c,aB⟩:=h.rep;injection aB with h0 aB;injection aB with ac aB;injection aB with ap aB;injection aB with aD aB;subst h0 ac ap aD;clear h aB;obtain⟨F,bI⟩:=b2;obtain⟨j,rfl⟩:=JN F
 .obtain⟨b,o,x,rfl,O,hx,hc⟩:=bZ.int (show j<nl by omega);have be:j<nl:=ad;have aJ:=ae (show ev g l (.loc j)=(x,0) by simp[ev,List.getD_eq_getElem?_getD,hx]);clear hx aH bZ;go_enter func73,ntmps73;go_wp2
  go_ret2
  exact fx.mk' aJ.o ((Below.refl _ _).alloc (JI _) _)
 .obtain⟨b,o,x,rfl,O,hx,hc⟩:=aH.int (show j<ng by omega);have be:j<ng:=ad;have aJ:=ae (show ev g l (.hP j)=(x,0) by simp[ev,List.getD_eq_getElem?_getD,hx]);clear hx aH bZ;go_enter func73,ntmps73;go_wp2
  go_ret2
  exact fx.mk' aJ.o ((Below.refl _ _).alloc (JI _) _)
namespace Bm
theorem zQ(h:p:=by
 have b6:=ae (show mI g l x from ⟨i.fg,i.fl,i.fe⟩);obtain⟨b2,cY⟩:=aI a1 cf;clear h hx a1 i;have bX:(op == 1)=false:=by simp;omega
 have g2:(op == 18)=false:=by simp;omega
 have cv:(op == 19)=false:=by simp;omega
 clear cf;have f:=(Below.refl w.heap.size w).alloc (JI _) (.cells #[.int .i64 op,.int .i64 n,.string nm,.slice (some ⟨b,o,none⟩) 1 c] 72);have a0:(w.alloc (.cells #[.int .i64 op,.int .i64 n,.string nm,.slice (some ⟨b,o,none⟩) 1 c] 72)).cell? ⟨w.heap.size,0,none⟩=some (.int .i64 op):=by simp[go_sem]
 have a3:(w.alloc (.cells #[.int .i64 op,.int .i64 n,.string nm,.slice (some ⟨b,o,none⟩) 1 c] 72)).cell? ⟨w.heap.size,3,none⟩=some (.slice (some ⟨b,o,none⟩) 1 c):=by simp[go_sem]
 have bz:(w.alloc (.cells #[.int .i64 op,.int .i64 n,.string nm,.slice (some ⟨b,o,none⟩) 1 c] 72)).heap.size=w.heap.size+1:=by simp
 have HA:=b9 a0 a3 bz f;clear a0 a3 bz f;go_enter func73,ntmps73;go_wp2_with(fail);refine(b2.o _ G L ng nl t cl g l bl Z U F (E.on HA.2.2.2) b6.o).mono ?_;rintro r aL ⟨rfl,bY⟩;obtain⟨a0,a3,bz,f⟩:=HA.o;have cX:=(bY.cell (p:=⟨w.heap.size,0,none⟩) (by simp only[];omega)).trans a0;have aA:=f.trans (bY.mono f.size);have H:=ae aA;clear HA a0 a3 bz f bY E b2 aA;have bd:=ae (show ev g l (.un op x)=if (ev g l x).2≠0 then (0,(ev g l x).2) else if op=3 then (wrap64 (-(ev g l x).1),0) else (eH ((ev g l x).1 == 0),0) from rfl);clear b6;generalize ev g l x=r1 at *;obtain⟨v1,f1⟩:=r1;by_cases z:f1=0
 case neg=>
  have q1:(f1 != 0)=true:=by simpa using z
  have aT:=ae (show ev g l (.un op x)=(0,f1) by rw[bd.o];simp[z]);clear z;go_wp2
  go_ret2
  exact fx.mk' aT.o H.o
 have q1:(f1 != 0)=false:=by simpa using z
 rcases cY.o with aD|bt
 .have aT:=ae (show ev g l (.un op x)=(wrap64 (-v1),0) by rw[bd.o];simp[z,aD]);subst aD;clear z;go_wp2
  go_ret2
  exact fx.mk' aT.o H.o
 .have aT:=ae (show ev g l (.un op x)=(eH (v1 == 0),0) by rw[bd.o];simp[z,bt]);subst bt;clear z;go_wp2_with(fail);refine(g8 _ _).mono ?_;rintro e J ⟨rfl,rfl⟩;go_wp2
  go_ret2
  exact fx.mk' aT.o H.o
 ):p:=h
end Bm
open Bm in
theorem GQ(op:Int)(x:VE)(a1:h8 x):h8 (.un op x):=by
 intro w G L ng nl t cl g l c0 c1 c2 c3 h i;exact zP
namespace Bn
theorem z0(h:p:=by
 have split:(op == 16)=true/\(v1 == 0)=false/\(op == 17)=false\/(op == 16)=false/\(op == 17)=true/\(v1 != 0)=false\/(op == 16)=false/\(op == 17)=false:=by
  exact FD
 clear bE bb bd;have bF:=ae split;clear split;have second:∀(P:Prop),P->P:=λ_ h=>h;clear second;rcases bF.o with⟨db,bt,dH⟩|⟨db,bt,dH⟩|⟨db,bt⟩
 all_goals
  go_wp2_with(fail);refine(N.o _ G L ng nl t cl g l cD b5 b3 bA (j.on H.o) b6.2).mono ?_;rintro r aV ⟨rfl,bv⟩;have s:=(bv.cell (p:=⟨w.heap.size,0,none⟩) aq).trans cX;have cO:=ae (H.trans (bv.mono H.size));clear bv H cX cB d4 d5 d6 d7 j N aq;generalize ev g l y=c9 at *;obtain⟨v2,f2⟩:=c9;by_cases ax:f2=0
  case neg=>
   have c7:(f2 != 0)=true:=by simpa using ax
   have b4:=ae (show ev g l (.bin op x y)=(0,f2) by rw[a4.o];simp[ax]);clear ax;go_wp2
   go_ret2
   exact fx.mk' b4.o cO.o
  have c7:(f2 != 0)=false:=by simpa using ax
  have b4:=ae (show ev g l (.bin op x y)=if op=16\/op=17 then (eH (v2 != 0),0) else arith op v1 v2 by rw[a4.o];simp[ax]);clear ax a4 bF
  try clear dH
  first
  | (have I:=ae (show ev g l (.bin op x y)=(eH (v2 != 0),0) by rw[b4.o,if_pos (by first|exact .inl (by simpa using db)|exact .inr (by simpa using bt))]);have hc:op=16\/op=17:=(by first|exact .inl (by simpa using db)|exact .inr (by simpa using bt));clear db bt b4 bX g2 cv cR fY;rcases hc with rfl|rfl;all_goals
     go_wp2_with(fail);refine(g8 _ _).mono ?_;rintro e J ⟨rfl,rfl⟩;go_wp2
     go_ret2
     exact fx.mk' I.o cO.o)
  | (have aH:op≠16/\op≠17:=⟨by simpa using db,by simpa using bt⟩;have I:=ae (show ev g l (.bin op x y)=arith op v1 v2 by rw[b4.o,if_neg ad]);have hc:op=5\/op=6\/op=7\/op=8\/op=9\/op=10\/op=11\/op=12\/op=13\/op=14\/op=15:=(aC cY.o);clear db bt b4 bX g2 cv cR fY aH cY;by_cases h0:v2=0
     .subst h0;clear bR;rcases hc with rfl|rfl|rfl|rfl|rfl|rfl|rfl|rfl|rfl|rfl|rfl
      all_goals
       go_wp2_with(fail)
       try (refine(g8 _ _).mono ?_;rintro e J ⟨rfl,rfl⟩;go_wp2)
       go_ret2
       first|exact fx.mk' I.o cO.o|exact fx.mk' (I.trans (by first|(simp[arith];done)|(simp[arith];decide +kernel))) cO.o
     .have c8:(v2 == 0)=false:=by simpa using h0
      have bn:=ae h0;clear h0;rcases hc with rfl|rfl|rfl|rfl|rfl|rfl|rfl|rfl|rfl|rfl|rfl
      case inr.inl=>
       go_wp2_with(fail);refine(lT _ _ bn.o _).mono ?_;rintro e J ⟨rfl,rfl⟩;go_wp2
       go_ret2
       exact fx.mk' (I.trans (by simp[arith,bn.o])) cO.o
      case inr.inr.inl=>
       go_wp2_with(fail);refine(lT _ _ bn.o _).mono ?_;rintro e J ⟨rfl,rfl⟩;go_wp2
       go_ret2
       exact fx.mk' (I.trans (by simp[arith,bn.o,EP _ _ bR.o])) cO.o
      all_goals
       clear c8;go_wp2_with(fail)
       try (refine(g8 _ _).mono ?_;rintro e J ⟨rfl,rfl⟩;go_wp2)
       go_ret2
       exact fx.mk' I.o cO.o)
 ):p:=h
theorem zr(h:p:=by
 by_cases z:f1=0
 case neg=>
  have q1:(f1 != 0)=true:=by simpa using z
  have aT:=ae (show ev g l (.bin op x y)=(0,f1) by rw[bd.o];simp[z]);clear z;go_wp2
  go_ret2
  exact fx.mk' aT.o H.o
 have q1:(f1 != 0)=false:=by simpa using z
 have K:=ae z;clear z;by_cases bE:op=16/\v1=0
 .obtain⟨rfl,rfl⟩:=bE;have aT:=ae (show ev g l (.bin 16 x y)=(0,0) by rw[bd.o];simp[K.o]);go_wp2
  go_ret2
  exact fx.mk' aT.o H.o
 by_cases bb:op=17/\v1≠0
 .obtain⟨rfl,bD⟩:=bb;have cM:(v1 != 0)=true:=by simpa using bD
  have aT:=ae (show ev g l (.bin 17 x y)=(1,0) by rw[bd.o];simp[K.o,bD]);clear bD;go_wp2
  go_ret2
  exact fx.mk' aT.o H.o
 exact zZ
 ):p:=h
theorem zm(h:p:=by
 have b6:=ak (show mI g l x from ⟨i.fg,i.fl,i.fe.1⟩) (show mI g l y from ⟨i.fg,i.fl,i.fe.2⟩);have bR:=ae (rl i.fg i.fl x i.fe.1);obtain⟨b2,N,cY⟩:=eS k m cf;clear h hx aa k m i;have bX:(op == 1)=false:=by simp;omega
 have g2:(op == 18)=false:=by simp;omega
 have cv:(op == 19)=false:=by simp;omega
 have cR:(op == 3)=false:=by simp;omega
 have fY:(op == 4)=false:=by simp;omega
 clear cf;have f:=(Below.refl w.heap.size w).alloc (JI _) (.cells #[.int .i64 op,.int .i64 n,.string nm,.slice (some ⟨b,o,none⟩) 2 c] 72);have a0:(w.alloc (.cells #[.int .i64 op,.int .i64 n,.string nm,.slice (some ⟨b,o,none⟩) 2 c] 72)).cell? ⟨w.heap.size,0,none⟩=some (.int .i64 op):=by simp[go_sem]
 have a3:(w.alloc (.cells #[.int .i64 op,.int .i64 n,.string nm,.slice (some ⟨b,o,none⟩) 2 c] 72)).cell? ⟨w.heap.size,3,none⟩=some (.slice (some ⟨b,o,none⟩) 2 c):=by simp[go_sem]
 have bz:(w.alloc (.cells #[.int .i64 op,.int .i64 n,.string nm,.slice (some ⟨b,o,none⟩) 2 c] 72)).heap.size=w.heap.size+1:=by simp
 have HA:=b9 a0 a3 bz f;clear a0 a3 bz f;go_enter func73,ntmps73;go_wp2_with(fail);refine(b2.o _ G L ng nl t cl g l bl Z U F (E.on HA.2.2.2) b6.1).mono ?_;rintro r aL ⟨rfl,bY⟩;obtain⟨a0,a3,bz,f⟩:=HA.o;have cX:=(bY.cell (p:=⟨w.heap.size,0,none⟩) (by simp only[];omega)).trans a0;have cB:=(bY.cell (p:=⟨w.heap.size,3,none⟩) (by simp only[];omega)).trans a3;have aA:=f.trans (bY.mono f.size);have d4:=(aA.cell (p:=⟨b,o+4,none⟩) O).trans cn;have d5:=(aA.cell (p:=⟨b,o+5,none⟩) O).trans ci;have d6:=(aA.cell (p:=⟨b,o+6,none⟩) O).trans bL;have d7:=(aA.cell (p:=⟨b,o+7,none⟩) O).trans e7;have aq:w.heap.size<aL.heap.size:=by have:=bY.size;omega
 have H:=ae aA;clear HA a0 a3 bz f bY E b2 aA e0 e1 e2 e3 cn ci bL e7;exact zq
 ):p:=h
end Bn
open Bn in
theorem EN(op:Int)(x y:VE)(k:h8 x)(m:h8 y):h8 (.bin op x y):=by
 intro w G L ng nl t cl g l c0 c1 c2 c3 h i;exact zl
theorem mw:∀e:VE,h8 e
 | .num n=>EO n
 | .eP _=>λ_ _ _ _ _ _ _ _ _ _ _ _ _ h _=>h.ok.elim
 | .loc k=>wy _ k (.inl rfl)
 | .hP k=>wy _ k (.inr rfl)
 | .un op x=>GQ op x (mw x)
 | .bin op x y=>EN op x y (mw x) (mw y)
end
def idx(ms:Int)(r:Int×Int):Int×Int:=if r.2≠0 then (0,r.2) else if r.1<0\/ms<=r.1 then (0,2) else (r.1,0)
structure xP(w:World)(MA:Kj)(mn:Nat)(X:List bI)(G L:Kj)(ng nl:Nat)(g l:List Int)(e:VE)(i:Nat)(m:bI)(b o:Nat)(c0 c1 c2 c3:Value):Prop where
 ev:kQ w G L ng nl g l e [c0,c1,c2,c3]
 ms:cB (EF fO) 3 w w.heap.size MA mn X
 i1:i<mn
 hm:X[i]?=some m
 bl:b<w.heap.size
 e0:w.cell? ⟨b,o,none⟩=some c0
 e1:w.cell? ⟨b,o+1,none⟩=some c1
 e2:w.cell? ⟨b,o+2,none⟩=some c2
 e3:w.cell? ⟨b,o+3,none⟩=some c3
theorem cB.Il{B:Nat}{l:List bI}(h:cB (EF fO) 3 w B A n l)(aj:k<n):
  ∃b o m,A=some ⟨b,o,none⟩/\b<B/\l[k]?=some m/\w.cell? ⟨b,o+k*3,none⟩=some (.string m.name)/\w.cell? ⟨b,o+k*3+1,none⟩=some (.bool m.re)/\w.cell? ⟨b,o+k*3+2,none⟩=some (.int .i64 m.size):=by
 obtain⟨b,o,x,bu,O,hx,_,hc⟩:=h.Hl aj;exact⟨b,o,x,bu,O,hx,hc 0 _ rfl,hc 1 _ rfl,hc 2 _ rfl⟩
namespace Bo
theorem y9(h:p:=by
 have q1:decide ((i:Int)<0)=false:=by simp
 have cM:decide (i>=mn)=false:=by simp;omega
 have a:decide (mn<=i)=false:=by simp;omega
 have c7:(0:Int)<=(i:Int):=ad;have c8:(i:Int)<(mn:Int):=ad;have b9:=ae (a3.on (Fr.ext ar));clear hm ab a3 E;go_enter func110,ntmps110;go_wp2_with(fail);have cX:=(ar.cell (j:=o) bB (λh=>h)).trans e0;have cp:=(ar.cell (j:=o+1) bB (λh=>h)).trans e1;generalize w.alloc (.cells #[.bool false,.int .i64 i,.slice (some ⟨b,o,none⟩) 1 pc] 74)=W at *;refine(nI e W G L ng nl t cl g l _ _ _ _ b9.o).mono ?_;exact Fk
 ):p:=h
end Bo
open Bo in
theorem wR(w:World)(MA:Kj)(mn mc:Nat)(X:List bI)(G L:Kj)(ng nl t cl:Nat)(g l:List Int)(e:VE)(i:Nat)(m:bI)(b o pc:Nat)(c0 c1 c2 c3:Value)
  (h:xP w MA mn X G L ng nl g l e i m b o c0 c1 c2 c3) :
  Calls prog 110 #[.agg #[.bool false,.int .i64 i,.slice (some ⟨b,o,none⟩) 1 pc],.slice MA mn mc,.slice G ng t,.slice L nl cl] w (fx w (idx m.size (ev g l e))):=by
 exact y8
namespace Bp
theorem y9(h:p:=by
 have c7:(0:Int)<=(i:Int):=ad;have c8:(i:Int)<(mn:Int):=ad;have b9:=ae (a3.on (Fr.ext ar));have a:=ae n;clear hm ab a3 E n;go_enter func117,ntmps117;go_wp2_with(fail);have cX:=(ar.cell (j:=o) bB (λh=>h)).trans e0;have cp:=(ar.cell (j:=o+1) bB (λh=>h)).trans e1;generalize w.alloc (.cells #[.bool false,.int .i64 i,.slice (some ⟨b,o,none⟩) 1 pc] 74)=W at *;refine(mw e W G L ng nl t cl g l _ _ _ _ b9.o a.o).mono ?_;exact Fk
 ):p:=h
end Bp
open Bp in
theorem rE(w:World)(MA:Kj)(mn mc:Nat)(X:List bI)(G L:Kj)(ng nl t cl:Nat)(g l:List Int)(e:VE)(i:Nat)(m:bI)(b o pc:Nat)(c0 c1 c2 c3:Value)
  (h:xP w MA mn X G L ng nl g l e i m b o c0 c1 c2 c3) (n:mI g l e) :
  Calls prog 117 #[.agg #[.bool false,.int .i64 i,.slice (some ⟨b,o,none⟩) 1 pc],.slice MA mn mc,.slice G ng t,.slice L nl cl] w (fx w (idx m.size (ev g l e))):=by
 exact y8
theorem ti(w:World)(i:Int)(A:Kj)(pc:Nat)(b:Bool)(m g l:Value):Calls prog 110 #[.agg #[.bool b,.int .i64 i,.slice A 0 pc],m,g,l] w (fx w (0,0)):=by
 go_enter func110,ntmps110;go_wp2
 go_ret2
 exact ts
theorem pL(w:World)(i:Int)(A:Kj)(pc:Nat)(b:Bool)(m g l:Value):Calls prog 117 #[.agg #[.bool b,.int .i64 i,.slice A 0 pc],m,g,l] w (fx w (0,0)):=by
 go_enter func117,ntmps117;go_wp2
 go_ret2
 exact ts
theorem Sl.C4{P:Nat->Prop}(h:Sl w P A n (l.map .i))(aj:k<n):
  ∃b o x,A=some ⟨b,o,none⟩/\P b/\l[k]?=some x/\w.cell? ⟨b,o+k,none⟩=some (.int .i64 x):=by
 obtain⟨b,o,x,cs,bu,O,hx,aZ,hl,hc⟩:=Sl.iG (z:=1) h (λ_=>rfl) aj;simp only[D.rep] at aZ;subst aZ;exact⟨b,o,x,bu,O,hx,by have:=hc 0 _ rfl;simpa using this⟩
namespace Bq
theorem q0(h:p:=by
 go_enter func30,ntmps30;exact qN
 ):p:=h
end Bq
open Bq in
theorem jv(A bg:Kj)(n c n2 c2:Nat)(S T:List Int)(w:World)(hs:Sl w (ao w) A n (S.map .i))(ht:Sl w (ao w) bg n2 (T.map .i))(hn:n<=140737488355328) :
  Calls prog 30 #[.slice A n c,.slice bg n2 c2] w λr J=>r=.returned (.bool (decide (S=T)))/\Below w.heap.size w J:=by
 have hl:S.length=n:=by have:=hs.1;simpa using this
 have bZ:T.length=n2:=by have:=ht.1;simpa using this
 by_cases aH:n=n2
 case neg=>
  exact qZ
 subst aH;obtain⟨bW,Q⟩:=aI hl bZ;clear hl bZ;have aT:((n:Int) != (n:Int))=false:=by simp
 go_enter func30,ntmps30;go_wp2;go_loopw [5] (λi wr=>∃k:Nat,k<=n/\i=.int .i64 k/\(∀j,j<k->S[j]?=T[j]?)/\Below w.heap.size w wr) (λi _=>n - (intOf i).toNat)
 case atStart=>exact⟨0,J4 _,rfl,λj be=>absurd be ad,Below.refl _ _⟩
 case round=>
  obtain⟨k,aj,rfl,bK,O⟩:=hrel;have ay:=ae bK;clear bK;by_cases aq:k<n
  .obtain⟨b,o,x,rfl,H,hx,c0⟩:=(hs.on O).C4 aq;obtain⟨Y,ai,e,rfl,g,d,d0⟩:=(ht.on O).C4 aq;exact Fs
  .obtain rfl:k=n:=ad;exact vI
end Go.Proofs.YtnigabjngpnbiaaGreat
