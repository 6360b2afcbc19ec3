/- Part 18 of the proof. No condition of its own. -/
import Derived.Test.YtnigabjngpnbiabGreatF17
namespace Go.Proofs.YtnigabjngpnbiabGreat
open Go.RowKit Go.Proofs.Tryz
set_option maxRecDepth 1000000
set_option maxHeartbeats 25600000
set_option linter.unusedVariables false
variable{a:Act}{fs:List ao}{O c fc hn l lc n:Nat}{o:Oper}{FA:NH}{rest:PT}{p:Prop}{S:World}
section
variable {P:Program} {e t:TypeId} {z:Value} {size bytes:Nat}
theorem fj(A:NH)(n c:Nat):(bA A n c).Nodup:=by unfold bA;cases (Value.slice A n c).ownBlock<;>simp
namespace DC
theorem Cv(h:p:=by
 refine h I aD ab ⟨bR,rfl⟩ (NC.grown aR λg aR=>.inl (by rw[h0.eq];simp[aR])) λb O=>?_;have aZ:(Value.slice I (n+1) aD).ownBlock=some b:=by simpa using O
 rcases H with H|H
 .rw[H] at aZ;exact .inl (by rw[h0.eq];simp[aZ])
 .have:=(bR.lt b aZ).2;rw[H] at aZ;injection aZ with aZ;right;simp at aZ;omega
 ):p:=h
end DC
open DC in
theorem zj{K:Act->World->Prop}{Q:Exit->Act->World->Prop}(bF:cq P t e z size bytes)(s x:Operand)
  (bD:o.op=.call {callee:=.builtin .append,args:=#[s,x],argTypes:=#[t,t]})
  {A:NH} {n c:Nat} {xs:List Value} {F:List Nat} (h0:Own S e size A n c xs F) {cs:Array Value}
  (hs:a.eval s=.slice A n c) (hx:a.eval x=.slice (some ⟨S,0,none⟩) 1 1) (T:cs.size=size) (ac:∀u∈cs.toList,u.oneCell'=true)
  (r:(n+1)*bytes<=140737488355328) (y:n+1<=140737488355328)
  (h:∀I aD ab,Own ab e size I (n+1) aD (xs++cs.toList) (bA I (n+1) aD)->Fr (λb=>b∈F) S ab->(∀b∈bA I (n+1) aD,b∈F\/(S.heap.size<=b/\b<ab.heap.size))->K (a.put o.dst (.slice I (n+1) aD)) ab):o.wp P a (S.alloc (.cells cs e)) K Q:=by
 refine kx _ bF s x bD 0 _ n xs hs (h0.row.alloc _) _ 1 1 cs.toList hx (Src.block (heap_alloc_new S _) 1 ad ac) r y (Nq _) (λh=>nomatch h) λG ab bR cS H=>?_;exact Cu
theorem oV{ops:Array Oper}{rest:List Oper}{Q:Exit->Act->World->Prop}(bF:cq P t e z size bytes)(i:o.guard=none)(s x:Operand)
  (bD:o.op=.call {callee:=.builtin .append,args:=#[s,x],argTypes:=#[t,t]})
  {A:NH} {n c:Nat} {xs:List Value} {F:List Nat} (h0:Own S e size A n c xs F) {cs:Array Value}
  (hs:a.eval s=.slice A n c) (hx:a.eval x=.slice (some ⟨S,0,none⟩) 1 1) (T:cs.size=size) (ac:∀u∈cs.toList,u.oneCell'=true)
  (r:(n+1)*bytes<=140737488355328) (y:n+1<=140737488355328)
  (h:∀I aD ab,Own ab e size I (n+1) aD (xs++cs.toList) (bA I (n+1) aD)->Fr (λb=>b∈F) S ab->(∀b∈bA I (n+1) aD,b∈F\/(S.heap.size<=b/\b<ab.heap.size))->wpList P ops Q rest (a.put o.dst (.slice I (n+1) aD)) ab):wpList P ops Q (o::rest) a (S.alloc (.cells cs e)):=
 wpList_plain i λ_ hK=>zj bF s x bD h0 hs hx T ac r y λI aD ab cd g2 cA=>hK _ _ (h I aD ab cd g2 cA)
end
theorem yU{bX aB f I:List Nat}{a b:Nat}(h:(bX++aB).Nodup)(ap:∀x∈bX++aB,x<a)(hI:I.Nodup)(d:∀x∈I,a<=x/\x<b)(hK:f.Nodup)(g:∀x∈f,x∈bX\/b<=x)(H:a<=b):(f++(aB++I)).Nodup:=by
 have h0:=List.nodup_append.1 h;refine List.nodup_append.2 ⟨hK,List.nodup_append.2 ⟨h0.2.1,hI,λx hx y bb c=>?_⟩,λx hx y bb c=>?_⟩
 .have:=ap x (by simp[hx]);have:=d y bb;omega
 .subst c;rcases Nc.1 bb with bb|bb
  .rcases g x hx with ac|ac
   .exact h0.2.2 x ac x bb rfl
   .have:=ap x (by simp[bb]);omega
  .have az:=d x bb;rcases g x hx with ac|ac
   .have:=ap x (by simp[ac]);omega
   .omega
theorem Jw{X Y:List Nat}{m:Nat}(hX:X.Nodup)(co:Y.Nodup)(ac:∀x∈X,x<m)(az:∀y∈Y,m<=y):(X++Y).Nodup:=
 List.nodup_append.2 ⟨hX,co,λx hx y bb c=>by have:=ac x hx;have:=az y bb;omega⟩
theorem xt{F1 F2 bJ cb:List Nat}:(F1++(F2++(bJ++cb))).Nodup↔(bJ++(F1++(F2++cb))).Nodup:=by
 have h:(F1++(F2++(bJ++cb))).Perm (bJ++(F1++(F2++cb))):=by
  rw[<-List.append_assoc F1 F2,<-List.append_assoc (F1++F2) bJ,<-List.append_assoc F1 F2 cb,<-List.append_assoc bJ];exact List.perm_append_comm.append_right cb
 exact h.nodup_iff
structure Small(s:ai):Prop where
 g:s.globals.length<=1000
 t:s.table.length<=5000
 h:s.threads.length<=1000
 f:∀t∈s.threads,t.length<=1000000/\∀f∈t,f.ints.length<=100000/\f.az.length<=100000
structure HN(B:Nat)(w:World)(s:ai)(GA:NH)(gn gc:Nat)(TA:NH)(tn tc N k:Nat)(HA:NH)(hc:Nat)(xs:List Value)(bJ cb:List Nat):Prop where
 st:rF w {s with threads:=s.threads.take k} GA gn gc TA tn tc HA k hc xs (bA GA gn gc) (bA TA tn tc) bJ cb
 o:an w N 30 #[.slice GA gn gc,.slice TA tn tc,.slice HA k hc,.int .i64 s.fault]
 ne:N∉bA GA gn gc++(bA TA tn tc++(bJ++cb))
 lo:∀b∈bA GA gn gc++(bA TA tn tc++(bJ++cb)),B<=b/\b<w.heap.size
 go:B<=N
section
variable {B:Nat} {w ab:World} {s:ai} {GA TA HA:NH} {gn gc tn tc N k hc:Nat} {xs:List Value} {bJ cb:List Nat}
theorem HN.aj(h:HN B w s GA gn gc TA tn tc N k HA hc xs bJ cb)(he:Ext w ab):HN B ab s GA gn gc TA tn tc N k HA hc xs bJ cb:=
 ⟨h.st.ak λb O=>he.block b (h.lo b O).2 λh=>h,h.o.aj he,h.ne,λb O=>⟨(h.lo b O).1,M0 (h.lo b O).2 he.size⟩,h.go⟩
theorem HN.step(h:HN B w s GA gn gc TA tn tc N k HA hc xs bJ cb)(bv:s.threads[k]?=some fs){b2:List Value}{bX aB:List Nat}{aO aW:World}(he:Ext w aO)
  (bD:Own aO 77 4 FA n c b2 bX) (J:kz pS aO fs b2 aB) (hn:n=fs.length) (nd:(bX++aB).Nodup) (hK:∀b∈bX++aB,w.heap.size<=b/\b<aO.heap.size)
  {bl:NH} {a7:Nat} (ba:Own aW 95 1 bl (k+1) a7 (xs++[.slice FA n c]) (bA bl (k+1) a7)) (b1:Fr (λb=>b∈bJ) aO aW) (r:∀b∈bA bl (k+1) a7,b∈bJ\/(aO.heap.size<=b/\b<aW.heap.size)) {X:World}
  (hX:aW.setCell ⟨N,2,none⟩ (.slice bl (k+1) a7)=X):HN B X s GA gn gc TA tn tc N (k+1) bl a7 (xs++[.slice FA n c]) (bA bl (k+1) a7) (cb++(bX++aB)):=by
 have hw:=he.size;have bO:=b1.size;have cR:N<w:=h.o.lt;have m:=h.st.nd;have l:=xt.1 m;have n2:=List.nodup_append.1 l;have j:∀b∈bA GA gn gc++(bA TA tn tc++cb),b∉bJ:=λb O aV=>n2.2.2 b aV b O rfl;have ap:∀b∈bA GA gn gc++(bA TA tn tc++cb),b<w.heap.size/\b≠N:=λb O=>by
  have aZ:b∈bA GA gn gc++(bA TA tn tc++(bJ++cb)):=by
   exact AF
  exact⟨(h.lo b aZ).2,λhe=>h.ne (he▸aZ)⟩
 have a2:∀b∈bJ,b<w.heap.size/\b≠N:=λb O=>by
  have aZ:b∈bA GA gn gc++(bA TA tn tc++(bJ++cb)):=by simp[O]
  exact⟨(h.lo b aZ).2,λhe=>h.ne (he▸aZ)⟩
 have i:∀b,b≠N->X.heap[b]?=aW.heap[b]?:=λb O=>by rw[<-hX];exact aS O
 have cM:X=aW.heap.size:=by rw[<-hX];simp[World.setCell]
 have d:∀b∈bA GA gn gc++(bA TA tn tc++cb),X.heap[b]?=w.heap[b]?:=λb O=>
  (i b (ap b O).2).trans ((b1.block b (by have:=(ap b O).1;omega) (j b O)).trans (he.block b (ap b O).1 λh=>h))
 have f:∀b∈bX++aB,X.heap[b]?=aO.heap[b]?:=λb O=>
  (i b (ax (hK b O))).trans (b1.block b (hK b O).2 λaV=>by have:=hK b O;have:=(a2 b aV).1;omega)
 have g:∀b∈bA bl (k+1) a7,b≠N:=λb O=>by
  rcases r b O with ac|ac
  .exact(a2 b ac).2
  .omega
 have bq:oZ X fs [.slice FA n c] (bX++aB):=⟨FA,n,c,b2,bX,aB,rfl,rfl,hn,bD.ak λb O=>f b (by simp[O]),J.ak pS.ak λb O=>f b (by simp[O])⟩
 have dz:s.threads.take (k+1)=s.threads.take k++[fs]:=aU bv;refine⟨⟨h.st.gl,h.st.tl,?_,h.st.g.ak λb O=>d b (by simp only[Nc];exact .inl O),h.st.t.ak λb O=>d b (by simp only[Nc];exact .inr (.inl O)),ba.ak λb O=>i b (g b O),?_,?_⟩,?_,?_,λb O=>?_,h.go⟩
 .have:=h.st.hl;show k+1=(s.threads.take (k+1)).length
  rw[dz,M3,<-this];rfl
 .show kz oZ X (s.threads.take (k+1)) _ _
  rw[dz];exact(h.st.hs.ak oZ.ak λb O=>d b (by simp[O])).snoc bq
 .refine xt.2 ?_;rw[show bA GA gn gc++(bA TA tn tc++(cb++(bX++aB)))=(bA GA gn gc++(bA TA tn tc++cb))++(bX++aB) by simp];refine yU (a:=w.heap.size) (b:=aO.heap.size) l (λx hx=>?_) nd hK (fj _ _ _) (λx hx=>(r x hx).imp id λh=>h.1) hw;rcases Nc.1 hx with hx|hx
  .exact(a2 x hx).1
  .exact(ap x hx).1
 .have:=(h.o.aj he).on b1 λaV=>(a2 _ aV).2 rfl;rw[<-hX];exact this.aK 2 _
 .intro aR;simp only[Nc] at aR;have ac:=h.ne;simp only[Nc] at ac;rcases aR with aR|aR|aR|aR|aR|aR
  .exact ac (.inl aR)
  .exact ac (.inr (.inl aR))
  .exact g _ aR rfl
  .exact ac (.inr (.inr (.inr aR)))
  .have:=hK N (by simp[aR]);omega
  .have:=hK N (by simp[aR]);omega
 .rw[cM];simp only[Nc] at O;have hl:=h.lo;rcases O with O|O|O|O|O|O
  .have:=hl b (by simp[O]);omega
  .have:=hl b (by simp[O]);omega
  .rcases r b O with ac|ac
   .have:=hl b (by simp[ac]);omega
   .have:=h.go;omega
  .have:=hl b (by simp[O]);omega
  .have:=hK b (by simp[O]);have:=h.go;omega
  .have:=hK b (by simp[O]);have:=h.go;omega
end
theorem yB:cq prog 93 77 (.agg #[(0:Int),(0:Int),(),()]) 4 64:=cq.mk' Tryz.underlying93 (by kernel_rfl) rfl ad
theorem tk:cq prog 28 95 (.agg #[()]) 1 24:=cq.mk' Tryz.underlying28 (by kernel_rfl) rfl ad
theorem Own.aj{w ab:World}{e:TypeId}{z:Nat}{A:NH}{xs:List Value}{F:List Nat}(h:Own w e z A n c xs F)(he:Ext w ab):Own ab e z A n c xs F:=h.ak λb O=>he.block b (h.lt b O) λh=>h
abbrev K3(W:World)(s:ai)(gn tn:Nat)(N:Nat)(bc:NH)(L:Nat)(aZ:NH)(S:Nat)(V:World):Prop:=Ext W V/\an V N 30 #[.slice none 0 0,.slice none 0 0,.slice none 0 0,.int .i64 0]/\W.heap.size<=N/\Own V 3 1 bc gn L (s.globals.map dv) (bA bc gn L)/\Own V 138 2 aZ tn S (s.table.flatMap ch) (bA aZ tn S)/\(∀b∈bA bc gn L,W.heap.size<=b/\b≠N)/\(∀b∈bA aZ tn S,W.heap.size<=b/\b≠N/\b∉bA bc gn L)
structure IZ(aW wr:World)(fs:List ao)(j:Nat)(FA:NH)(fc:Nat)(b2:List Value)(bX aB:List Nat):Prop where
 ext:Ext aW wr
 o:Own wr 77 4 FA j fc b2 bX
 f:kz pS wr (fs.take j) b2 aB
 nd:(bX++aB).Nodup
 lo:∀b∈bX++aB,aW.heap.size<=b/\b<wr.heap.size
theorem IZ.aj{aW wr ab:World}{fs:List ao}{j:Nat}{FA:NH}{fc:Nat}{b2:List Value}{bX aB:List Nat}(h:IZ aW wr fs j FA fc b2 bX aB)(he:Ext wr ab):IZ aW ab fs j FA fc b2 bX aB:=
 ⟨h.ext.trans he,h.o.aj he,h.f.ak pS.ak λb O=>he.block b (h.lo b (by simp[O])).2 λh=>h,h.nd,λb O=>⟨(h.lo b O).1,M0 (h.lo b O).2 he.size⟩⟩
theorem IZ.step{aW wr:World}{j:Nat}{b2:List Value}{bX aB:List Nat}(h:IZ aW wr fs j FA fc b2 bX aB){f:ao}(bv:fs[j]?=some f){a b c:World}{IA bC:NH}{i ic:Nat}
  (ar:Ext wr a) (hI:Own a 3 1 IA i ic (f.ints.map dv) (bA IA i ic)) (d:∀x∈bA IA i ic,wr.heap.size<=x/\x<a.heap.size) (aN:i=f.ints.length)
  (bF:Ext a b) (bx:Own b 3 1 bC l lc (f.az.map dv) (bA bC l lc)) (cN:∀x∈bA bC l lc,a.heap.size<=x/\x<b.heap.size) (hl:l=f.az.length)
  {cB:NH} {a4:Nat} (bD:Own c 77 4 cB (j+1) a4 (b2++[.int .i64 f.proc,.int .i64 f.pc,.slice IA i ic,.slice bC l lc]) (bA cB (j+1) a4)) (J:Fr (λx=>x∈bX) b c) (r:∀x∈bA cB (j+1) a4,x∈bX\/(b.heap.size<=x/\x<c.heap.size)) :
  IZ aW c fs (j+1) cB a4 (b2++[.int .i64 f.proc,.int .i64 f.pc,.slice IA i ic,.slice bC l lc]) (bA cB (j+1) a4) (aB++(bA IA i ic++bA bC l lc)):=by
 have F:=h.ext.size;have s1:=ar.size;have s2:=bF.size;have cP:=J.size;have O:=(h.aj ar).aj bF;have bp:∀x∈bX,x<wr.heap.size:=λx hx=>(h.lo x (by simp[hx])).2;have bl:∀x∈aB,x∉bX:=λx hx ac=>(List.nodup_append.1 h.nd).2.2 x ac x hx rfl;have b1:pS c f [.int .i64 f.proc,.int .i64 f.pc,.slice IA i ic,.slice bC l lc] (bA IA i ic++bA bC l lc):=
  ⟨IA,i,ic,bC,l,lc,_,_,rfl,rfl,aN,hl,(hI.aj bF).ak λx hx=>J.block x (ax (d x hx)) λac=>by have:=d x hx;have:=bp x ac;omega,bx.ak λx hx=>J.block x (cN x hx).2 λac=>by have:=cN x hx;have:=bp x ac;omega⟩
 refine⟨Fr.low (M:=λx=>x∈bX) (Fr.trans (Fr.mono O.ext λ_ h=>h.elim) J) λx hx=>(h.lo x (by simp[hx])).1,bD,?_,?_,λx hx=>?_⟩
 .rw[aU bv];exact(O.f.ak pS.ak λx hx=>J.block x (by have:=(h.lo x (by simp[hx])).2;omega) (bl x hx)).snoc b1
 .refine yU (a:=wr.heap.size) (b:=b.heap.size) h.nd (λx hx=>(h.lo x hx).2) (Jw (m:=a.heap.size) (fj _ _ _) (fj _ _ _) (λx hx=>(d x hx).2) λx hx=>(cN x hx).1) (λx hx=>?_) (fj _ _ _) (λx hx=>(r x hx).imp id λh=>h.1) ad;rcases Nc.1 hx with hx|hx
  .have:=d x hx;omega
  .have:=cN x hx;omega
 .simp only[Nc] at hx;rcases hx with hx|hx|hx|hx
  .rcases r x hx with ac|ac
   .have:=h.lo x (by simp[ac]);omega
   .omega
  .have:=h.lo x (by simp[hx]);omega
  .have:=d x hx;omega
  .have:=cN x hx;omega
section
variable {P:Program} {ops:Array Oper} {Q:Exit->Act->World->Prop} {R:World->World->Prop} {tails:List Nat}
theorem x1{α β γ δ ε:Type}{aa:α->β->γ->δ->ε->Act}{C:α->β->γ->δ->ε->World->Prop}{G:Prop}(h:(∀x y z u v V,C x y z u v V->cY P ops Q R tails rest (aa x y z u v) V)->G)(key:∀x y z u v V,C x y z u v V->cY P ops Q R tails rest (aa x y z u v) V):G:=h key
end
theorem KT{P:Program}{ops:Array Oper}{Q:Exit->Act->World->Prop}{R:World->World->Prop}{tails:List Nat}{W:World}(C:World->Prop)(hC:C W)(h:∀V,C V->cY P ops Q R tails rest a V):cY P ops Q R tails rest a W:=h W hC
def Ka(w:World)(s:ai)(gn tn hn:Nat)(e:Ending)(ab:World):Prop:=∃GA gc TA tc HA hc xs F1 F2 bJ cb,e=.returned (.agg #[.slice GA gn gc,.slice TA tn tc,.slice HA hn hc,.int .i64 s.fault])/\rF ab s GA gn gc TA tn tc HA hn hc xs F1 F2 bJ cb/\(∀b∈F1++(F2++(bJ++cb)),w.heap.size<=b/\b<ab.heap.size)/\Ext w ab
namespace DD
theorem fC(h:p:=by
 refine cj ?_;generalize hX:World.setCell _ _ _=X;obtain⟨bE,bt,ct⟩:=a9 (w:=W) [.slice bc gn L,.slice aZ tn S,(),.int .i64 s.fault] (by rfl) aN aC am hX;have aI:=ao.lt;have aK:=aT.lt;have n:HN W X s bc gn L aZ tn S N 0 none 0 [] [] []:=by
  refine⟨⟨b7.1,b7.2.1,rfl,ao.ak λb O=>ct.block b (aI b O) (T b O).2,aT.ak λb O=>ct.block b (aK b O) (z b O).2.1,⟨World.ownsRow_nil _ _ _ _,rfl⟩,⟨rfl,rfl⟩,?_⟩,bE,?_,λb O=>?_,am⟩
  .simp only[Nt];exact List.nodup_append.2 ⟨fj _ _ _,fj _ _ _,λa bg b O H=>(z b O).2.2 (H▸bg)⟩
  .simp only[Nt,Nc];rintro(O|O)
   .exact(T _ O).2 rfl
   .exact(z _ O).2.1 rfl
  .simp only[Nt,Nc] at O;have:=ct.size;rcases O with O|O
   .exact⟨(T b O).1,by have:=aI b O;omega⟩
   .exact⟨(z b O).1,by have:=aK b O;omega⟩
 obtain⟨a0,ak,af⟩:=(al.2.1.aj bt).two;have aP:=ah n bt;clear d0 aQ aS hX bE bt ct aI aK n aC aN ao aT T z;go_wp2_with(fail);clear a0 ak af;go_loopw [21] (λb5 wr=>∃(k:Nat) (bl:NH) (a7:Nat) (xs:List Value) (bJ cb:List Nat),b5=.int .i64 k/\k<=hn/\HN W wr s bc gn L aZ tn S N k bl a7 xs bJ cb/\Ext W wr) (λb5 _=>hn - (intOf b5).toNat)
 case atStart=>exact⟨0,none,0,[],[],[],rfl,ad,aP.1,aP.2⟩
 case round=>
  obtain⟨k,bl,a7,xs,bJ,cb,rfl,aj,hC,e⟩:=hrel;obtain⟨cD,rfl⟩:∃cD,cD=wr:=⟨wr,rfl⟩
  clear aP;have bY:=ah hC e;have cv:N<cD:=hC.o.lt;by_cases ap:k<hn
  .obtain⟨b,o,fs,bh,m,c0,rfl,O,bv,bm,hm,bR⟩:=(al.2.2.2.on e).h.v3 ap;have b3:b<cD:=O;have bN:m=fs.length:=by have:=bR.1;simpa using this.symm
   have aU:=aV.f fs (M4 bv);have bU:m<=1000000:=by have:=aU.1;omega
   have bZ:=br bv bR bN aU.2;clear hC e O bv bR bN aU;go_upto_region 6 with(fail);generalize hV:World.alloc _ _=V;have aC:=aX hV;have b4:=aL hV;have cc:=ah aC (bZ.2.1.on (Fr.ext aC));obtain⟨d0,aQ,aS⟩:=b4.two;clear hV aC b4 bm;go_wp2_with(fail);clear d0 aQ aS;go_loopw [6,28] (λeE bj wr=>∃(j:Nat) (FA:NH) (fc:Nat) (b2:List Value) (bX aB:List Nat),eE=.slice FA j fc/\bj=.int .i64 j/\j<=m/\IZ V wr fs j FA fc b2 bX aB) (λ_ bj _=>m - (intOf bj).toNat)
   case atStart=>exact⟨0,none,0,[],[],[],rfl,rfl,ad,NC,⟨World.ownsRow_nil _ _ _ _,rfl⟩,⟨rfl,rfl⟩,by simp,λb O=>by simp at O⟩
   case round=>
    obtain⟨j,FA,fc,b2,bX,aB,rfl,rfl,bi,hI⟩:=hrel;have cC:=ae hI;by_cases cG:j<m
    .obtain⟨ch,cT,f,IA,i,ic,bC,l,lc,rfl,cH,g,c0,c1,c2,c3,aM,bo,az,cr⟩:=(cc.2.on (Fr.ext hI.ext)).IE cG;have bd:ch<wr:=cH;have cy:i=f.ints.length:=by have:=az.1;simpa using this.symm
     have bK:l=f.az.length:=by have:=cr.1;simpa using this.symm
     have ba:=bZ.2.2.2 f (M4 g);have bV:i<=100000:=ad;have bu:l<=100000:=ad;have bW:=ay g cy bK;have aw:=ah az cr;clear hI cH g cy bK ba az cr aM bo;go_upto_region 9 with(fail);generalize hU:World.alloc _ _=U;have cl:=aX hU;have cN:=aL hU;have cz:=ay (cC.aj cl) (aw.1.on (Fr.ext cl)) (aw.2.on (Fr.ext cl));obtain⟨d0,aQ,aS⟩:=cN.two;clear hU cl cN c0 c1 c2 c3 aw;refine eJ (λ_=>False) [(0,3),(1,3),(2,0),(3,3),(4,0),(5,3),(6,0),(8,3),(9,0),(7,1),(10,1),(11,3),(12,2),(13,2),(14,3)] ?_
     iterate 2 refine pf ?_
     refine ph ?_;refine pf ?_;refine ph ?_;refine pf ?_;refine ph ?_;refine pf ?_;refine ph ?_;refine aE rfl (λK hK=>?_);go_simp;refine(Sl.nN (Sl.on cz.2.1 (Fr.ext (Fr.refl _ U).drew)) ad).mono ?_;rintro r aO ⟨E,cm,rfl,u,bf,ar⟩;have H1:=ay u bf ar;refine dB hK (ar) ?_;clear hK K;clear u bf ar;refine aE rfl (λK hK=>?_);go_simp;refine(Sl.nN (Sl.on cz.2.2 (Fr.ext (Fr.aF H1.2.2))) ad).mono ?_;rintro r aW ⟨bn,cq,rfl,ci,aA,bF⟩;have b1:=ay ci aA bF;refine dB hK (bF) ?_;clear hK K;clear ci aA bF;have Z:=((cz.1.o.aj (Fr.aF H1.2.2)).aj b1.2.2)
     refine pf ?_;refine au rfl (λK hK=>?_);go_simp;refine dY hK ?_;clear hK K;refine au rfl (λK hK=>?_);rw[if_pos (by rfl)];refine zj yB (.tmp 32) (.tmp 44) rfl Z (cs:=#[.int .i64 f.proc,.int .i64 f.pc,.slice E i cm,.slice bn l cq]) rfl rfl rfl (by simp[Value.oneCell']) ad ad ?_;intro cB a4 b6 cd g2 cA;refine dY hK ?_;clear hK K;refine pf ?_;refine aG ?_;have a3:=ae (cz.1.step bW.1 (Fr.aF H1.2.2) H1.1 (λx hx=>H1.2.1 x hx) bW.2.1 b1.2.2 b1.1 b1.2.1 bW.2.2 cd g2 cA);clear cd g2 cA Z d0 aQ aS;go_wp2_with(fail);go_roundw
     case rel=>exact⟨j+1,cB,a4,_,_,_,rfl,by go_num,ad,a3.o⟩
     case measure=>exact aH
    .obtain rfl:j=m:=ad;have y:Ext cD wr:=cc.1.trans hI.ext;have G:=ae (bY.1.aj y);have bk:=ae y;obtain⟨d0,aQ,aS⟩:=G.o.o.two;have bT:=G.st.h;have dP:N∉bJ:=λh=>G.ne (by simp[h]);clear hI y;go_wp2_with(at_builtin;refine oV tk rfl (.tmp 48) (.tmp 51) rfl bT (cs:=#[.slice FA j fc]) rfl rfl rfl (by simp[Value.oneCell']) ad ad ?_;intro ca b8 b6 cd g2 cA;have b0:=G.o.o.on g2 dP;have I:=br cd g2 cA b0;clear cd g2 cA d0 aQ aS;obtain⟨e0,a6,ag⟩:=b0.two;clear b0);go_roundw
     case rel=>
      have ab:=cC.f;rw[Nb (ax bZ.2.2.1)] at ab;have bp:=cC.lo;have dm:=cc.1.size;exact⟨k+1,ca,b8,_,_,_,by go_num,ad,bY.1.step bZ.1 bk.o cC.o.o ab bZ.2.2.1 cC.nd (λb O=>⟨by have:=bp b O;omega,(bp b O).2⟩) I.1 I.2.1 I.2.2.1 rfl,
       Fr.low (M:=λb=>b∈bJ\/b=N) (Fr.trans (Fr.mono (bY.2.trans bk.o) λ_ h=>h.elim) (Fr.setCell (Fr.mono I.2.1 λ_ h=>.inl h) (.inl (.inr rfl)) _)) λb O=>by
        rcases O with O|O
        .exact(bY.1.lo b (by simp[O])).1
        .rw[O];exact bY.1.go⟩
     case measure=>exact aH
  .obtain rfl:k=hn:=ad;obtain⟨d0,aQ,aS⟩:=hC.o.two;have bb:=al.2.2.1.aj e;obtain⟨bq,a1,a5⟩:=bb.two;have J:=al.1.trans e;have bL:=ah bb J;clear hC e bb J;go_wp2_with(fail);generalize co:World.setCell _ _ _=Y;obtain⟨bM,bA,bz⟩:=a9 (w:=w) [.slice bc gn L,.slice aZ tn S,.slice bl k a7,.int .i64 s.fault] (by rfl) bL.1 bL.2 ad co;have bB:=ah bA bz;clear co bA bz d0 aQ aS bq a1 a5;obtain⟨bq,a1,a5⟩:=bM.two;refine NB (v:=.agg #[.slice bc gn L,.slice aZ tn S,.slice bl k a7,.int .i64 s.fault]) (by simp[results,Tryz.results29,go_sem,bq]) rfl ?_;have cf:=bY.1.st;rw[Nb (ax b7.2.2)] at cf;have bp:=bY.1.lo;have cZ:=a8.o;refine⟨bc,L,aZ,S,bl,a7,xs,_,_,bJ,cb,rfl,cf.ak λb O=>bB.2.block b (bp b O).2 (ax (bp b O)),λb O=>?_,bB.1⟩;have:=bp b O;have:=bB.2.size;omega
 ):p:=h
end DD
open DD in
theorem fV(s:ai)(GA TA HA:NH)(gn gc tn tc hn hc:Nat)(w:World)(h:l7 w (av w) s GA gn TA tn HA hn)(aY:Small s) :
  Calls prog 29 #[.agg #[.slice GA gn gc,.slice TA tn tc,.slice HA hn hc,.int .i64 s.fault]] w (Ka w s gn tn hn):=by
 have wi:gn=s.globals.length:=by have:=h.g.1;simpa using this.symm
 have wj:tn=s.table.length:=by have:=h.t.1;simpa using this.symm
 have ve:hn=s.threads.length:=by have:=h.h.1;simpa using this.symm
 have fk:gn<=100000:=by have:=aY.g;omega
 have cF:tn<=5000:=by have:=aY.t;omega
 have dr:hn<=1000:=by have:=aY.h;omega
 have b7:=ay wi wj ve;obtain⟨aV,aR⟩:=aJ aY h;clear h aY wi wj ve;go_enter func29,ntmps29;go_upto_region 1 with(fail);generalize be:World.alloc _ _=W;have aF:=g0 be;have cg:=e5 be;have bG:=eT be;have cZ:W=w.heap.size+2:=by rw[<-be];simp
 have al:=br aF cg bG (aR.on aF);obtain⟨a0,ak,af⟩:=cg.two;have a8:=ae cZ;clear be aF cg bG cZ;refine sK (λ_=>False) [10] (.free 0 (.held 1 (.free 3 (.held 4 (.free 6 (.held 7 (.pick [2,9] (λi=>bif i == 2 then .pick [5,9] (λi=>bif i == 5 then .free 8 (.pick [9] (λ_=>.pick [10] (λ_=>.stop))) else .pick [5] (λ_=>.free 8 (.pick [10] (λ_=>.stop)))) else .pick [2] (λ_=>.pick [5] (λ_=>.free 8 (.pick [10] (λ_=>.stop)))))))))))) ?_;refine tf ?_;refine th ?_;refine tf ?_;refine th ?_;refine tf ?_;refine th ?_;refine x1 (P:=?P1) (ops:=?o1) (Q:=?q1) (R:=?r1) (tails:=?t1) (rest:=.pick [10] (λ_=>.stop)) (aa:=?aa) (C:=K3 W s gn tn) (λkey=>?main) ?key
 case main=>
  refine a2 ?_ ?_
  ·
   refine aD rfl (λK hK=>?_) rfl;go_simp;refine(Sl.nN (al.2.2.2.on (Fr.refl _ W).drew).g ad).mono ?_;rintro r aO ⟨bc,L,rfl,u,bf,ar⟩;have s1:=ar.size;have q1:W.drew.heap.size=W:=rfl;refine dB hK (ar) ?_;clear hK K;refine a2 ?_ ?_
   ·
    refine aD rfl (λK hK=>?_) rfl;go_simp;refine(Sl.w1 (al.2.2.2.on (Fr.aF ar)).t ad).mono ?_;rintro r aW ⟨aZ,S,rfl,ci,aA,bF⟩;have s2:=bF.size;refine dB hK (bF) ?_;clear hK K;refine tf ?_;refine aq ?_;refine ep ?_;have hC:K3 W s gn tn (aW.heap.size) bc L aZ S (aW.alloc (.cells #[(),(),(),(0:Int)] 30)):=by
     refine⟨((Fr.aF ar).trans bF).alloc _,ND,ad,(u.aj bF).aj (NC.alloc _),ci.aj (NC.alloc _),λb O=>?_,λb O=>⟨?_,?_,λac=>?_⟩⟩
     .have:=bf b O;omega
     .have:=aA b O;omega
     .have:=aA b O;omega
     .have:=aA b O;have:=bf b ac;omega
    generalize aW.heap.size=dd at hC ⊢;exact key dd bc L aZ S _ hC
   ·
    refine ep ?_;refine KT (λV=>Ext aO V/\an V aO 30 #[(),(),(),(0:Int)]/\aO.heap.size<V.heap.size) ⟨NC.alloc _,ND,(ND).lt⟩ (λV hV=>?_);refine aq ?_;refine aD rfl (λK hK=>?_) rfl;go_simp;refine(Sl.w1 ((al.2.2.2.on (Fr.aF ar)).on hV.1).t ad).mono ?_;rintro r aW ⟨aZ,S,rfl,ci,aA,bF⟩;have s2:=bF.size;have cP:=hV.1.size;refine dB hK (bF) ?_;clear hK K;refine tf ?_;have hC:K3 W s gn tn (aO.heap.size) bc L aZ S aW:=by
     refine⟨((Fr.aF ar).trans hV.1).trans bF,hV.2.1.aj bF,ad,(u.aj hV.1).aj bF,ci,λb O=>?_,λb O=>⟨?_,?_,λac=>?_⟩⟩
     .have:=bf b O;omega
     .have:=aA b O;omega
     .have:=aA b O;have:=hV.2.2;omega
     .have:=aA b O;have:=bf b ac;omega
    generalize aO.heap.size=dd at hC ⊢;exact key dd bc L aZ S _ hC
  ·
   refine ep ?_;refine KT (λV=>Ext W V/\an V W 30 #[(),(),(),(0:Int)]/\W.heap.size<V.heap.size) ⟨(NC.drew).alloc _,an.new W.drew _ _,(an.new W.drew _ _).lt⟩ (λV hV=>?_);refine aq ?_;refine aD rfl (λK hK=>?_) rfl;go_simp;refine(Sl.nN (al.2.2.2.on hV.1).g ad).mono ?_;rintro r aO ⟨bc,L,rfl,u,bf,ar⟩;have s1:=ar.size;have F:=hV.1.size;refine dB hK (ar) ?_;clear hK K;refine aq ?_;refine aD rfl (λK hK=>?_) rfl;go_simp;refine(Sl.w1 ((al.2.2.2.on hV.1).on ar).t ad).mono ?_;rintro r aW ⟨aZ,S,rfl,ci,aA,bF⟩;have s2:=bF.size;refine dB hK (bF) ?_;clear hK K;refine tf ?_;have hC:K3 W s gn tn (W.heap.size) bc L aZ S aW:=by
    refine⟨(hV.1.trans ar).trans bF,(hV.2.1.aj ar).aj bF,ad,u.aj bF,ci,λb O=>?_,λb O=>⟨?_,?_,λac=>?_⟩⟩
    .have:=bf b O;have:=hV.2.2;omega
    .have:=aA b O;omega
    .have:=aA b O;have:=hV.2.2;omega
    .have:=aA b O;have:=bf b ac;omega
   generalize W.heap.size=dd at hC ⊢;exact key dd bc L aZ S _ hC
 intro N bc L aZ S V ⟨aC,aN,am,ao,aT,T,z⟩;obtain⟨d0,aQ,aS⟩:=aN.two;clear a0 ak af;exact fQ
def As(w:World)(op num:Int)(gU:ByteArray)(l:List VE)(e:Ending)(ab:World):Prop:=∃A n c,e=.returned (.agg #[.int .i64 op,.int .i64 num,.string gU,.slice A n c])/\n<=c/\Sl ab (fresh w ab) A n (l.map bo)/\Ext w ab
def ye(x:VE):Prop:=∀(w:World) (A:NH) (n c:Nat),Sl w (av w) A n (x.args.map bo)->Calls prog 55 #[.agg #[.int .i64 x.a5,.int .i64 x.numOf,.string x.bw,.slice A n c]] w (As w x.a5 x.numOf x.bw x.args)
namespace DE
theorem c4(h:p:=by
 generalize hX:World.setCell aW _ _=Y;have bz:=cP hX;have S:=ae (show Ext w Y/\an Y w 37 #[op,num,gU,.slice cu (k+1) c3]/\an Y (w.heap.size+1) 37 #[(0:Int),(0:Int),NF,()]/\Gr (λb=>w.heap.size+2<=b) (w.heap.size+2) 37 4 Y cu (k+1) c3 ((l.take (k+1)).map bo) from
  ⟨Fr.low (M:=λb=>b=w.heap.size) (Fr.trans (Fr.mono b1.1 λ_ h=>h.elim) bz) λb O=>ad,by rw[<-hX];exact b1.2.1.aK 3 _,b1.2.2.1.on bz ad,by
   rw[aU bB.1,Na];exact b1.2.2.2.cD bz λb O _=>⟨ad,ad⟩⟩)
 clear hX bz a0 ak af b0;go_wp2;go_roundw
 case rel=>exact⟨k+1,cu,c3,by go_num,ad,S.o⟩
 case measure=>exact aH
 ):p:=h
theorem tb(h:p:=by
 have bB:=ah bb cX;have bY:=ae (cC.o y (M4 bb));clear bb aa cX Z bu O aF aT cx hG;go_upto_region 6 with(fail);generalize hU:World.alloc _ _=U;have cl:=aX hU;have cN:=aL hU;have dc:=cl.size;have bG:=aP.2.1.aj cl;have cz:=cQ (aP.1.trans cl) bG (aP.2.2.1.aj cl) (aP.2.2.2.aj cl) (bB.2.on (Fr.ext cl));obtain⟨d0,aQ,aS⟩:=cN.two;obtain⟨a0,ak,af⟩:=bG.two;clear hU cl cN bG c0 c1 c2 c3 aZ;refine eJ (λ_=>False) [(0,3),(1,0),(2,0),(3,1),(4,1),(5,2),(6,3),(7,2)] ?_;refine pf ?_
 iterate 2 refine ph ?_
 refine aE rfl (λK hK=>?_);go_simp;refine(bY.o _ _ _ _ (cz.2.2.2.2.on (Fr.ext (Fr.refl _ U).drew))).mono ?_;rintro e aO ⟨b9,aN,zc,rfl,bV,cY,ar⟩;have H1:=ay cY bV ar;refine dB hK (ar) ?_;clear hK K;have aM:Ext U aO:=Fr.aF ar;have r:=cz.2.2.2.1.aj aM;have cn:=aM.size;have aB:∀b,(Value.slice I k aD).ownBlock=some b->b<U.heap.size:=λb O=>(cz.2.2.2.1.lt O).2;have hd:(bo y).rep aO (lD (λb=>w.heap.size+2<=b) aO (.slice I k aD)) (#[.int .i64 y.a5,.int .i64 y.numOf,.string y.bw,.slice b9 aN zc]:Array Value).toList:=
  aY.2 ⟨b9,aN,zc,rfl,bV,cY.mono λb O=>⟨by have:=O.1;have:U.drew.heap.size=U:=rfl;omega,O.2,λh=>by have:=aB b h;have:=O.1;have:U.drew.heap.size=U:=rfl;omega⟩⟩
 have a8:=ah r hd;clear cY bV ar r hd aB;refine rS ?_;refine au rfl (λK hK=>?_);rw[if_pos (by rfl)];refine rA p2 (.tmp 16) (.tmp 19) rfl a8.1 a8.2 rfl rfl rfl ad ad ad ?_;intro cu c3 aW cd g2 cA c6;have bp:∀b,(Value.slice I k aD).ownBlock=some b->w.heap.size+2<=b:=λb O=>(a8.1.lt O).1;have b0:=(cz.2.1.aj aM).on g2 (λh=>by have:=bp _ h;omega);have cE:=(cz.2.2.1.aj aM).on g2 (λh=>by have:=bp _ h;omega);have bf:Ext w aW:=Fr.low (M:=λb=>(Value.slice I k aD).ownBlock=some b) (Fr.trans (Fr.mono (cz.1.trans aM) λ_ h=>h.elim) g2) λb O=>by have:=bp b O;omega
 have b1:=br bf b0 cE cd;clear cd g2 cA c6 bp cE bf a0 ak af d0 aQ aS;obtain⟨a0,ak,af⟩:=b0.two;exact nH
 ):p:=h
end DE
open DE in
theorem gd(op num:Int)(gU:ByteArray)(l:List VE)(aq:∀y∈l,ye y)(hl:l.length<=2)(w:World)(A:NH)(n c:Nat)(h:Sl w (av w) A n (l.map bo)) :
  Calls prog 55 #[.agg #[op,num,gU,.slice A n c]] w (As w op num gU l):=by
 have hn:n<=2:=by have:=h.1;simp at this;omega
 have f:=ae (show l.length=n by have:=h.1;simpa using this);obtain⟨H,cC⟩:=aJ h aq;clear h aq hl;go_enter func55,ntmps55;go_upto_region 1 with(fail);generalize be:World.alloc _ _=W;have m:=g0 be;have bW:=e5 be;have i:=eT be;obtain⟨a0,ak,af⟩:=bW.two;clear be;go_upto_region 3 with(fail);generalize hX:World.setCell _ _ _=X;have J:=cP hX;have aF:Ext w X:=Fr.low (M:=λb=>b=w.heap.size) (Fr.trans (Fr.mono m λ_ h=>h.elim) J) λb O=>ad;have aT:an X w 37 #[op,num,gU,()]:=hX▸bW.aK 3 _;have cx:an X (w.heap.size+1) 37 #[(0:Int),(0:Int),NF,()]:=i.on J ad;clear J m bW i a0 ak af;have aP:=ay aF aT cx;clear hX aF aT cx;go_wp2_with(fail);go_loopw [11] (λb5 wr=>∃(k:Nat) (I:NH) (aD:Nat),b5=.int .i64 k/\k<=n/\Ext w wr/\an wr w 37 #[op,num,gU,.slice I k aD]/\an wr (w.heap.size+1) 37 #[(0:Int),(0:Int),NF,()]/\Gr (λb=>w.heap.size+2<=b) (w.heap.size+2) 37 4 wr I k aD ((l.take k).map bo)) (λb5 _=>n - (intOf b5).toNat)
 case atStart=>exact⟨0,none,0,rfl,ad,aP.1,aP.2.1,aP.2.2,Gr.nil _ _ _ _ _⟩
 case round=>
  obtain⟨k,I,aD,rfl,aj,aF,aT,cx,hG⟩:=hrel;clear aP;have aP:=br aF aT cx hG;have b8:=cx.lt;by_cases ap:k<n
  .obtain⟨b,o,y,cs,rfl,O,bb,aa,bu,Z⟩:=(H.on (Fr.ext aF)).g1 c7 ap;exact ta
  .obtain rfl:k=n:=ad;obtain⟨a0,ak,af⟩:=aT.two;obtain⟨bq,a1,a5⟩:=cx.two;clear aF aT cx hG;go_wp2_with(fail);generalize hX:World.setCell _ _ _=Y;obtain⟨bM,bA,bz⟩:=a9 (w:=w) [op,num,gU,.slice I k aD] (by rfl) aP.2.2.1 aP.1 ad hX;have bB:=ah bA bz;clear hX bA bz a0 ak af bq a1 a5;obtain⟨bq,a1,a5⟩:=bM.two;refine NB (v:=.agg #[op,num,gU,.slice I k aD]) (by simp[results,Tryz.results55,go_sem,bq]) rfl ?_;have aR:=aP.2.2.2.cD bB.2 λb O _=>⟨ad,ad⟩
   rw[Nb (ax f.o)] at aR;exact⟨I,k,aD,rfl,aR.cap.1,aR.sl (λb ap O=>⟨ad,ap⟩) (λb ap O=>⟨ad,ap⟩),bB.1⟩
theorem jW:∀x:VE,ye x
 | .num n=>λw A m c h=>gd 1 n ⟨#[]⟩ [] (by simp) (by simp) w A m c h
 | .gU s=>λw A m c h=>gd 2 0 s [] (by simp) (by simp) w A m c h
 | .loc k=>λw A m c h=>gd 18 k ⟨#[]⟩ [] (by simp) (by simp) w A m c h
 | .ij k=>λw A m c h=>gd 19 k ⟨#[]⟩ [] (by simp) (by simp) w A m c h
 | .un op x=>λw A m c h=>gd op 0 ⟨#[]⟩ [x] (λy bb=>by rw[Nv.1 bb];exact jW x) (by simp) w A m c h
 | .bin op x y=>λw A m c h=>gd op 0 ⟨#[]⟩ [x,y] (λz aI=>by
   simp only[Nk,List.not_mem_nil,or_false] at aI;rcases aI with aI|aI
   .rw[aI];exact jW x
   .rw[aI];exact jW y) (by simp) w A m c h
theorem zT(o:Option VE)(w:World)(eo en:Int)(es:ByteArray)(A:NH)(n c:Nat)(h:(o9 o).rep w (av w) [eo,en,es,.slice A n c]) :
  Calls prog 55 #[.agg #[eo,en,es,.slice A n c]] w λe ab=>∃I a6 aD,e=.returned (.agg #[eo,en,es,.slice I a6 aD])/\(o9 o).rep ab (fresh w ab) [eo,en,es,.slice I a6 aD]/\Ext w ab:=by
 cases o with
 | none=>
  obtain⟨A2,c2,e⟩:=fy.1 h;simp only[List.cons.injEq,and_true] at e;obtain⟨e1,e2,e3,b3⟩:=e;injection e1 with _ e1;injection e2 with _ e2;injection e3 with e3;injection b3 with b3 co bx;subst e1 e2 e3 b3 co bx;refine(gd 0 0 ⟨#[]⟩ [] (by simp) (by simp) w _ 0 c (Sl.bY _)).mono ?_;rintro e ab ⟨I,a6,aD,rfl,ac,az,aV⟩;obtain rfl:a6=0:=az.1.symm
  exact⟨I,0,aD,rfl,fy.2 ⟨I,aD,rfl⟩,aV⟩
 | some x=>
  obtain⟨A2,n2,c2,e,hc,hs⟩:=aY.1 h;simp only[List.cons.injEq,and_true] at e;obtain⟨e1,e2,e3,b3⟩:=e;injection e1 with _ e1;injection e2 with _ e2;injection e3 with e3;injection b3 with b3 co bx;subst e1 e2 e3 b3 co bx;refine(jW x w _ _ _ hs).mono ?_;rintro e ab ⟨I,a6,aD,rfl,ac,az,aV⟩;exact⟨I,a6,aD,rfl,aY.2 ⟨I,a6,aD,rfl,ac,az⟩,aV⟩
def I0(w:World)(l:List VE)(e:Ending)(ab:World):Prop:=∃A n c,e=.returned (.slice A n c)/\n<=c/\Sl ab (fresh w ab) A n (l.map bo)/\Ext w ab
namespace DF
theorem tb(h:p:=by
 have bB:=ah bb cX;clear bb aa cX Z bu O aF hG;go_upto_region 5 with(fail);generalize hU:World.alloc _ _=U;have cl:=aX hU;have cN:=aL hU;have dc:=cl.size;have cz:=ay (aP.1.trans cl) (aP.2.aj cl) (bB.2.on (Fr.ext cl));obtain⟨d0,aQ,aS⟩:=cN.two;clear hU cl cN c0 c1 c2 c3 aZ;go_wp2_with(fail);refine(jW y _ _ _ _ cz.2.2).mono ?_;rintro e aO ⟨b9,aN,zc,rfl,bV,cY,aM⟩;have r:=cz.2.1.aj aM;have cn:=aM.size;have aB:∀b,(Value.slice I k aD).ownBlock=some b->b<U.heap.size:=λb O=>(cz.2.1.lt O).2;have hd:(bo y).rep aO (lD (λb=>w.heap.size<=b) aO (.slice I k aD)) (#[.int .i64 y.a5,.int .i64 y.numOf,.string y.bw,.slice b9 aN zc]:Array Value).toList:=
  aY.2 ⟨b9,aN,zc,rfl,bV,cY.mono λb O=>⟨by have:=O.1;omega,O.2,λh=>by have:=aB b h;have:=O.1;omega⟩⟩
 have H1:=ay (cz.1.trans aM) r hd;clear cY bV aM r hd aB d0 aQ aS;go_wp2_with(at_builtin;refine bJ p2 rfl (.tmp 12) (.tmp 15) rfl H1.2.1 H1.2.2 rfl rfl rfl ad ad ad ?_;intro cu c3 aW cd g2 cA c6;have b7:=ah cd g2;clear cd g2 cA c6);have bp:∀b,(Value.slice I k aD).ownBlock=some b->w.heap.size<=b:=λb O=>(H1.2.1.lt O).1;have a7:Ext w aW:=Fr.low (M:=λb=>(Value.slice I k aD).ownBlock=some b) (Fr.trans (Fr.mono H1.1 λ_ h=>h.elim) b7.2) λb O=>bp b O;have a8:=ae a7;clear bp a7;go_roundw
 case rel=>exact⟨k+1,cu,c3,rfl,by go_num,ad,a8.o,by rw[aU bB.1,Na];exact b7.1⟩
 case measure=>exact aH
 ):p:=h
end DF
open DF in
theorem qG(l:List VE)(hl:l.length<=100000)(w:World)(A:NH)(n c:Nat)(h:Sl w (av w) A n (l.map bo)) :
  Calls prog 57 #[.slice A n c] w (I0 w l):=by
 have cD:l.length=n:=by have:=h.1;simpa using this
 have hn:n<=100000:=ad;obtain⟨f,H⟩:=aJ cD h;clear h hl cD;go_enter func57,ntmps57;go_wp2_with(fail);go_loopw [3,8] (λsv b5 wr=>∃(k:Nat) (I:NH) (aD:Nat),sv=.slice I k aD/\b5=.int .i64 k/\k<=n/\Ext w wr/\Gr (λb=>w.heap.size<=b) w.heap.size 37 4 wr I k aD ((l.take k).map bo)) (λ_ b5 _=>n - (intOf b5).toNat)
 case atStart=>exact⟨0,none,0,rfl,rfl,ad,NC,Gr.nil _ _ _ _ _⟩
 case round=>
  obtain⟨k,I,aD,rfl,rfl,aj,aF,hG⟩:=hrel;have aP:=ah aF hG;have mL:=aF.size;by_cases ap:k<n
  .obtain⟨b,o,y,cs,rfl,O,bb,aa,bu,Z⟩:=(H.on (Fr.ext aF)).g1 c7 ap;exact ta
  .obtain rfl:k=n:=ad;clear aF hG;go_wp2_with(fail);go_ret;have aR:=aP.2;rw[Nb (ax f.o)] at aR;exact⟨I,k,aD,rfl,aR.cap.1,aR.sl (λb ap O=>⟨O,ap⟩) (λb ap O=>⟨O,ap⟩),aP.1⟩
theorem qI(p:bO)(w:World)(A:NH)(n c:Nat)(h:(dg p).rep w (av w) [.bool p.param,.int .i64 p.index,.slice A n c]) :
  Calls prog 56 #[.agg #[.bool p.param,.int .i64 p.index,.slice A n c]] w λe ab=>∃I a6 aD,e=.returned (.agg #[.bool p.param,.int .i64 p.index,.slice I a6 aD])/\(dg p).rep ab (fresh w ab) [.bool p.param,.int .i64 p.index,.slice I a6 aD]/\Ext w ab:=by
 obtain⟨A2,n2,c2,e,hc,hs⟩:=dK.1 h;simp only[List.cons.injEq,and_true,true_and] at e;injection e with b3 co bx;subst b3 co bx;have H:=ae hs;have cv:p.at_.toList.length<=100000:=by cases p.at_<;>simp
 clear h hs hc;generalize j:p.param=pb;generalize k:p.index=pi;have ck:=ah j k;clear j k;go_enter func56,ntmps56;go_upto_region 1 with(fail);generalize be:World.alloc _ _=W;have m:=g0 be;have bW:=e5 be;have i:=eT be;have al:=br m bW i (H.on (Fr.ext m));have cZ:=i.lt;obtain⟨a0,ak,af⟩:=bW.two;clear be m bW i;go_wp2_with(fail);refine(qG _ cv W _ _ _ al.2.2.2).mono ?_;rintro e aO ⟨b9,aN,zc,rfl,bV,cY,aM⟩;have cn:=aM.size;have cg:=al.2.1.aj aM;have f:=al.2.2.1.aj aM;have H1:=cQ (al.1.trans aM) bV cY cg f;clear a0 ak af;obtain⟨a0,ak,af⟩:=cg.two;clear cg f aM bV cY;go_upto_region 2 with(fail);generalize hX:World.setCell _ _ _=X;have J:=cP hX;have aF:Ext w X:=Fr.low (M:=λb=>b=w.heap.size) (Fr.trans (Fr.mono H1.1 λ_ h=>h.elim) J) λb O=>ad;have aT:an X w 39 #[pb,pi,.slice b9 aN zc]:=hX▸H1.2.2.2.1.aK 2 _;have cx:an X (w.heap.size+1) 39 #[false,(0:Int),()]:=H1.2.2.2.2.on J ad;have aP:=ay aF J cx;clear hX a0 ak af;obtain⟨a0,ak,af⟩:=aT.two;obtain⟨bq,a1,a5⟩:=cx.two;clear J aF aT cx;go_wp2_with(fail);generalize hX:World.setCell _ _ _=Y;obtain⟨bM,bA,bz⟩:=a9 (w:=w) [pb,pi,.slice b9 aN zc] (by rfl) aP.2.2 aP.1 ad hX;have bB:=ah bA bz;clear hX bA bz a0 ak af bq a1 a5;obtain⟨bq,a1,a5⟩:=bM.two;refine NB (v:=.agg #[pb,pi,.slice b9 aN zc]) (by simp[results,Tryz.results56,go_sem,bq]) rfl ?_;have ag:w+1<aO.heap.size:=ad;refine⟨b9,aN,zc,rfl,?_,bB.1⟩;rw[<-ck.1,<-ck.2]
 refine dK.2 ⟨b9,aN,zc,rfl,H1.2.1,(H1.2.2.1.ak λb O=>(bB.2.block b (nI O.2 aP.2.1.size) (ax O.1)).trans (aP.2.1.block b O.2 (ax O.1))).mono λb O=>⟨by have:=O.1;omega,by have:=O.2;have:=aP.2.1.size;have:=bB.2.size;omega⟩⟩
structure rX(w:World)(s:ai)(t:Int)(f:ao)(O bD hn ch cT n fc:Nat)(IA:NH)(i ic:Nat)(bC:NH)(l lc:Nat):Prop where
 fault:s.fault=0
 t0:0<=t
 tn:t<hn
 lb:O<w.heap.size
 lf:ch<w.heap.size
 cell:w.cell? ⟨O,bD+t.toNat,none⟩=some (.slice (some ⟨ch,cT,none⟩) (n+1) fc)
 c0:w.cell? ⟨ch,cT+n*4,none⟩=some (.int .i64 f.proc)
 c1:w.cell? ⟨ch,cT+n*4+1,none⟩=some (.int .i64 f.pc)
 c2:w.cell? ⟨ch,cT+n*4+2,none⟩=some (.slice IA i ic)
 c3:w.cell? ⟨ch,cT+n*4+3,none⟩=some (.slice bC l lc)
 Mh:i<=ic
 lcs:l<=lc
 ints:Sl w (av w) IA i (f.ints.map D.i)
 az:Sl w (av w) bC l (f.az.map D.i)
 th:∃fs,s.threads[t.toNat]?=some (fs++[f])/\fs.length=n
 n1:n+1<=fc
 nb:n<=1000000
theorem rX.on{w ab:World}{s:ai}{t:Int}{f:ao}{O bD hn ch cT n fc:Nat}{IA:NH}{i ic:Nat}{bC:NH}{l lc:Nat}(h:rX w s t f O bD hn ch cT n fc IA i ic bC l lc)(he:Ext w ab):rX ab s t f O bD hn ch cT n fc IA i ic bC l lc:=
 ⟨h.fault,h.t0,h.tn,M0 h.lb he.size,M0 h.lf he.size,(he.cell h.lb λh=>h).trans h.cell,(he.cell h.lf λh=>h).trans h.c0,(he.cell h.lf λh=>h).trans h.c1,(he.cell h.lf λh=>h).trans h.c2,(he.cell h.lf λh=>h).trans h.c3,h.Mh,h.lcs,h.ints.on (Fr.ext he),h.az.on (Fr.ext he),h.th,h.n1,h.nb⟩
theorem l7.top{w:World}{s:ai}{GA TA HA:NH}{gn tn:Nat}(h:l7 w (av w) s GA gn TA tn HA hn)(aY:Small s){t:Int}{f:ao}(ht:dF s t=some f):
  ∃O bD ch cT n fc IA i ic bC l lc,HA=some ⟨O,bD,none⟩/\rX w s t f O bD hn ch cT n fc IA i ic bC l lc:=by
 obtain⟨h0,ac,fs,bv⟩:=j4 ht;have hl:=h.h.1;rw[M5] at hl;have aj:=(List.getElem?_eq_some_iff.1 bv).1;obtain⟨O,bD,c9,FA,m,fc,rfl,T,au,hc,hm,J⟩:=h.h.v3 (k:=t.toNat) ad;rw[bv] at au;injection au with au;subst au;have bN:=J.1;simp at bN;obtain⟨ch,cT,b0,IA,i,ic,bC,l,lc,rfl,cH,g,c0,c1,c2,c3,az,aV,aU,cB⟩:=J.IE (k:=fs.length) ad;simp at g;subst g;subst bN;exact⟨O,bD,ch,cT,fs.length,fc,IA,i,ic,bC,l,lc,rfl,h0,ac,ad,T,cH,hc,c0,c1,c2,c3,az,aV,aU,cB,⟨fs,bv,rfl⟩,hm,by have:=(aY.f _ (M4 bv)).1;simp at this;omega⟩
theorem yT(g c:Value)(O bD hn hc ch cT n fc:Nat)(t:Int)(w:World)(h0:0<=t)(ap:t<hn)(dr:O<w.heap.size)(bg:w.cell? ⟨O,bD+t.toNat,none⟩=some (.slice (some ⟨ch,cT,none⟩) (n+1) fc))(aj:n<=1000000) :
  Calls prog 33 #[.agg #[g,c,.slice (some ⟨O,bD,none⟩) hn hc,(0:Int)],t] w λe ab=>e=.returned (.pointer (some ⟨ch,cT+n*4,none⟩))/\Ext w ab:=by
 have q1:decide (t<0)=false:=by simp;omega
 have cL:decide (t>=hn)=false:=by simp;omega
 have de:(((n+1:Nat):Int) == 0)=false:=by simp;omega
 exact uA
theorem sU{w:World}{s:ai}{GA TA HA:NH}{gn tn:Nat}(h:l7 w (av w) s GA gn TA tn HA hn){t:Int}(ht:dF s t=none):
  s.fault≠0\/t<0\/(hn:Int)<=t\/(0<=t/\t<hn/\∃O bD FA fc,HA=some ⟨O,bD,none⟩/\O<w.heap.size/\w.cell? ⟨O,bD+t.toNat,none⟩=some (.slice FA 0 fc)):=by
 by_cases h0:s.fault≠0
 .exact .inl h0
 by_cases ac:t<0
 .exact .inr (.inl ac)
 by_cases az:(hn:Int)<=t
 .exact .inr (.inr (.inl az))
 refine .inr (.inr (.inr ⟨ad,ad,?_⟩));obtain⟨O,bD,fs,FA,m,fc,rfl,T,bv,hc,hm,J⟩:=h.h.v3 (k:=t.toNat) ad;unfold dF at ht;rw[if_neg ad,bv] at ht;have bR:fs=[]:=by simpa using ht
 have bN:=J.1;rw[bR] at bN;simp at bN;subst bN;exact⟨O,bD,FA,fc,rfl,T,hc⟩
theorem zV(s:ai)(GA TA HA:NH)(gn gc tn tc hn hc:Nat)(t:Int)(w:World)(h:l7 w (av w) s GA gn TA tn HA hn)(ht:dF s t=none) :
  Calls prog 33 #[.agg #[.slice GA gn gc,.slice TA tn tc,.slice HA hn hc,.int .i64 s.fault],t] w λe ab=>e=.returned (.pointer none)/\Ext w ab:=by
 have f:=sU h ht;clear h ht;generalize aI:s.fault=z at *;clear aI;by_cases h0:z=0
 case neg=>
  have hi:(z != 0)=true:=by simpa using h0
  clear f h0;exact uA
 subst h0;rcases f with h|h|h|⟨ac,az,O,bD,FA,fc,rfl,T,bg⟩
 .exact absurd rfl h
 .have q1:decide (t<0)=true:=by simpa using h
  clear h;exact uA
 .have q1:decide (t<0)=false:=by simp;omega
  have cL:decide (t>=hn)=true:=by simpa using h
  clear h;exact uA
 .have q1:decide (t<0)=false:=by simp;omega
  have cL:decide (t>=hn)=false:=by simp;omega
  exact uA
theorem lH{w:World}{s:ai}{t:Int}{f:ao}{bD ch cT:Nat}{IA:NH}{i ic:Nat}{bC:NH}(h:rX w s t f O bD hn ch cT n fc IA i ic bC l lc)(g c:Value)(hc:Nat):
  Calls prog 33 #[.agg #[g,c,.slice (some ⟨O,bD,none⟩) hn hc,.int .i64 s.fault],t] w λe ab=>e=.returned (.pointer (some ⟨ch,cT+n*4,none⟩))/\Ext w ab:=by
 rw[h.fault];exact yT g c O bD hn hc ch cT n fc t w h.t0 h.tn h.lb h.cell h.nb
namespace DG
theorem nG(h:p:=by
 obtain⟨a0,ak,af⟩:=aT.two;obtain⟨bq,a1,a5⟩:=cx.two;replace bg:=(aF.cell (j:=bD+t.toNat) dr λh=>h).trans bg
 replace c0:=(aF.cell (j:=cT+n*4) cH λh=>h).trans c0
 replace c1:=(aF.cell (j:=cT+n*4+1) cH λh=>h).trans c1
 replace c2:=(aF.cell (j:=cT+n*4+2) cH λh=>h).trans c2
 replace c3:=(aF.cell (j:=cT+n*4+3) cH λh=>h).trans c3
 obtain⟨bk,a3⟩:=aJ aF cx;clear be aF aT cx dr cH;go_wp2_with(fail);generalize hX:World.setCell _ _ _=X;obtain⟨bE,bt,ct⟩:=a9 (w:=w) [.int .i64 f.proc,.int .i64 f.pc,.slice IA i ic,.slice bC l lc] (by rfl) a3.o bk.o ad hX;have aP:=ae bt;clear hX bt ct a0 ak af bq a1 a5 c0 c1 c2 c3 bg;obtain⟨bq,a1,a5⟩:=bE.two;refine NB (v:=.tuple #[.agg #[.int .i64 f.proc,.int .i64 f.pc,.slice IA i ic,.slice bC l lc],true]) (by simp[results,Tryz.results22,go_sem,bq]) rfl ?_;exact⟨rfl,aP.o⟩
 ):p:=h
end DG
open DG in
theorem od{w:World}{s:ai}{t:Int}{f:ao}{bD ch cT:Nat}{IA:NH}{i ic:Nat}{bC:NH}(h:rX w s t f O bD hn ch cT n fc IA i ic bC l lc)(g c:Value)(hc:Nat):
  Calls prog 22 #[.agg #[g,c,.slice (some ⟨O,bD,none⟩) hn hc,.int .i64 s.fault],t] w λe ab=>e=.returned (.tuple #[.agg #[.int .i64 f.proc,.int .i64 f.pc,.slice IA i ic,.slice bC l lc],true])/\Ext w ab:=by
 obtain⟨ac,h0,ap,dr,cH,bg,c0,c1,c2,c3,_,_,_,_,_,_,aj⟩:=h;rw[ac];have q1:decide (t<0)=false:=by simp;omega
 have cL:decide (t>=hn)=false:=by simp;omega
 have de:(((n+1:Nat):Int) == 0)=false:=by simp;omega
 clear ac;go_enter func22,ntmps22;exact nF
namespace DH
theorem nG(h:p:=by
 obtain⟨a0,ak,af⟩:=aT.two;obtain⟨bq,a1,a5⟩:=cx.two;replace bg:=(aF.cell (j:=bD+t.toNat) T λh=>h).trans bg
 have bk:=ah aF cx;clear be aF aT cx;by_cases hm:m=0
 .subst hm;clear du;exact CA
 .have de:((m:Int) == 0)=false:=by simp;omega
  have dc:(z != 0)=true:=by simpa using du.resolve_left hm
  clear du hm;exact CA
 ):p:=h
end DH
open DH in
theorem z8(s:ai)(GA TA HA:NH)(gn gc tn tc hn hc:Nat)(t:Int)(w:World)(h:l7 w (av w) s GA gn TA tn HA hn)(ht:dF s t=none) :
  Calls prog 22 #[.agg #[.slice GA gn gc,.slice TA tn tc,.slice HA hn hc,.int .i64 s.fault],t] w λe ab=>e=.returned (.tuple #[.agg #[(0:Int),(0:Int),(),()],false])/\Ext w ab:=by
 have f:t<0\/(hn:Int)<=t\/(0<=t/\t<hn/\∃O bD FA m fc,HA=some ⟨O,bD,none⟩/\O<w.heap.size/\w.cell? ⟨O,bD+t.toNat,none⟩=some (.slice FA m fc)/\(m=0\/s.fault≠0)):=by
  by_cases ac:t<0
  .exact .inl ac
  by_cases az:(hn:Int)<=t
  .exact .inr (.inl az)
  refine .inr (.inr ⟨ad,ad,?_⟩);obtain⟨O,bD,fs,FA,m,fc,rfl,T,bv,hc,hm,J⟩:=h.h.v3 (k:=t.toNat) ad;refine⟨O,bD,FA,m,fc,rfl,T,hc,?_⟩;rcases sU h ht with aV|aV|aV|⟨_,_,aZ,cc,cB,a4,he,_,a7⟩
  .exact .inr aV
  .omega
  .omega
  .injection he with he;injection he with ar bF;subst ar bF;rw[hc] at a7;injection a7 with a7;injection a7 with _ a7 _;exact .inl a7
 clear h ht;generalize aI:s.fault=z at *;clear aI;rcases f with h|h|⟨ac,az,O,bD,FA,m,fc,rfl,T,bg,du⟩
 .have q1:decide (t<0)=true:=by simpa using h
  exact H6
 .have q1:decide (t<0)=false:=by simp;omega
  have cL:decide (t>=hn)=true:=by simpa using h
  exact H6
 .have q1:decide (t<0)=false:=by simp;omega
  have cL:decide (t>=hn)=false:=by simp;omega
  go_enter func22,ntmps22;exact nF
structure UV where
 GA:Option Addr
 gn:Nat
 gc:Nat
 MA:Option Addr
 mn:Nat
 mc:Nat
 PA:Option Addr
 pn:Nat
 pc:Nat
structure SV where
 GA:Option Addr
 gn:Nat
 gc:Nat
 TA:Option Addr
 tn:Nat
 tc:Nat
 HA:Option Addr
 hn:Nat
 hc:Nat
abbrev UV.val(p:UV)(u:aw):Array Value:=#[.slice p.GA p.gn p.gc,.slice p.MA p.mn p.mc,.slice p.PA p.pn p.pc,.int .i64 u.main]
abbrev SV.val(q:SV)(s:ai):Array Value:=#[.slice q.GA q.gn q.gc,.slice q.TA q.tn q.tc,.slice q.HA q.hn q.hc,.int .i64 s.fault]
structure UV.Ok(p:UV)(w:World)(u:aw):Prop where
 at_:h3 w (av w) u p.GA p.gn p.MA p.mn p.PA p.pn
 gc:p.gn<=p.gc
 mc:p.mn<=p.mc
 pc:p.pn<=p.pc
structure SV.Ok(q:SV)(w:World)(s:ai):Prop where
 at_:l7 w (av w) s q.GA q.gn q.TA q.tn q.HA q.hn
 gc:q.gn<=q.gc
 tc:q.tn<=q.tc
 hc:q.hn<=q.hc
theorem UV.Ok.on{p:UV}{w ab:World}{u:aw}(h:p.Ok w u)(he:Ext w ab):p.Ok ab u:=⟨h.at_.on he,h.gc,h.mc,h.pc⟩
theorem SV.Ok.on{q:SV}{w ab:World}{s:ai}(h:q.Ok w s)(he:Ext w ab):q.Ok ab s:=⟨h.at_.on he,h.gc,h.tc,h.hc⟩
theorem mm{u:aw}(hU:cT u):elems u.af<=5000:=by
 have ac:=gf u.af;have az:=dx hU.Gq;omega
theorem aP.small{u:aw}{N:Nat}{s:ai}(hU:cT u)(h:aP u N s)(hD:N<=100000):Small s:=by
 refine⟨by have:=h.du;have:=hU.qM;omega,by have:=h.table;have:=dx hU.Gq;omega,by have:=h.Ag;omega,λt ht=>⟨by have:=(h.fY t ht).1;omega,λf J=>?_⟩⟩;obtain⟨p,hp,_,ac,az⟩:=((h.fY t ht).2 f J).ex;have:=hU.procs p (M4 hp);have:=this.ints;have:=(hU.procs p (M4 hp)).az;omega
section
variable {u:aw} {N:Nat} {s:ai} {f:ao} {cq:cR} {pl:bO} {w:World} {GA MA IA QA:NH} {gn gc mn mc i ic qm qc:Nat}
theorem Fc(hU:cT u)(hS:aP u N s)(hF:cf u f)(hp:u.procs[f.proc.toNat]?=some cq)(hx:cK (bg u) cq.locals cq.az pl)(j:pl.param=false)
  (hm:Sl w (av w) MA mn (u.af.map eF)) (aR:Sl w (av w) GA gn (s.globals.map D.i)) (aN:Sl w (av w) IA i (f.ints.map D.i)) (bv:(dg pl).rep w (av w) [.bool pl.param,.int .i64 pl.index,.slice QA qm qc]) :
  (qm=0/\c6 u s f pl=(0,0))\/∃(e:VE) (k:Nat) (m:bM) (b o:Nat) (c0 c1 c2 c3:Value),QA=some ⟨b,o,none⟩/\qm=1/\pl.index=(k:Nat)/\Aq w MA mn u.af GA IA gn i s.globals f.ints e k m b o c0 c1 c2 c3/\ow s.globals f.ints e/\c6 u s f pl=idx m.size (ev s.globals f.ints e):=by
 rcases hx with⟨ac,_⟩|⟨_,m,az,aV,aU,cB⟩
 .rw[j] at ac;cases ac
 obtain⟨A2,n2,c2,e,_,hs⟩:=dK.1 bv;simp only[List.cons.injEq,and_true,true_and] at e;injection e with b3 co bx;subst b3 co bx;have al:u.af[pl.index.toNat]?=some m:=aV;by_cases aI:0<m.size
 .obtain⟨x,hx,rH⟩:=aU aI;right;rw[hx] at hs;simp only[Option.toList_some,M7,Nr] at hs;obtain rfl:qm=1:=hs.1.symm;obtain⟨b,o,b0,Z,a9,H,rfl,O,ba,c0,c1,c2,c3⟩:=hs.Fv (c7 x);obtain⟨bD,a,_⟩:=yL hS hF hp rH;have wi:=aR.1;have aB:=aN.1;have dS:=hm.1;rw[M5] at wi aB dS;have aj:=(List.getElem?_eq_some_iff.1 al).1;refine⟨x,pl.index.toNat,m,b,o,b0,Z,a9,H,rfl,rfl,ad,⟨⟨aR.ints,aN.ints,by rw[<-wi,<-aB];exact bD,jO x _ ba⟩,hm.tO,ad,al,O,c0,c1,c2,c3⟩,a,?_⟩;unfold c6;rw[hx,al];rfl
 .left;rw[cB aI] at hs;refine⟨hs.1.symm,?_⟩;unfold c6;rw[cB aI]
theorem Ju(hU:cT u)(hS:aP u N s)(hF:cf u f)(hp:u.procs[f.proc.toNat]?=some cq)(hx:cK (bg u) cq.locals cq.az pl)(j:pl.param=false)
  (hm:Sl w (av w) MA mn (u.af.map eF)) (aR:Sl w (av w) GA gn (s.globals.map D.i)) (aN:Sl w (av w) IA i (f.ints.map D.i)) (bv:(dg pl).rep w (av w) [.bool pl.param,.int .i64 pl.index,.slice QA qm qc]) :
  Calls prog 93 #[.agg #[false,.int .i64 pl.index,.slice QA qm qc],.slice MA mn mc,.slice GA gn gc,.slice IA i ic] w (gx w (c6 u s f pl)):=by
 rcases Fc hU hS hF hp hx j hm aR aN bv with⟨rfl,h⟩|⟨e,k,m,b,o,c0,c1,c2,c3,rfl,rfl,aj,hI,_,h⟩
 .rw[h];exact wo _ _ _ _ _ _ _ _
 .rw[h,aj];exact zm _ _ _ _ _ _ _ _ _ _ _ _ _ _ _ _ _ _ _ _ _ _ _ hI
theorem JH(hU:cT u)(hS:aP u N s)(hF:cf u f)(hp:u.procs[f.proc.toNat]?=some cq)(hx:cK (bg u) cq.locals cq.az pl)(j:pl.param=false)
  (hm:Sl w (av w) MA mn (u.af.map eF)) (aR:Sl w (av w) GA gn (s.globals.map D.i)) (aN:Sl w (av w) IA i (f.ints.map D.i)) (bv:(dg pl).rep w (av w) [.bool pl.param,.int .i64 pl.index,.slice QA qm qc]) :
  Calls prog 119 #[.agg #[false,.int .i64 pl.index,.slice QA qm qc],.slice MA mn mc,.slice GA gn gc,.slice IA i ic] w (gx w (c6 u s f pl)):=by
 rcases Fc hU hS hF hp hx j hm aR aN bv with⟨rfl,h⟩|⟨e,k,m,b,o,c0,c1,c2,c3,rfl,rfl,aj,hI,a,h⟩
 .rw[h];exact rT _ _ _ _ _ _ _ _
 .rw[h,aj];exact tV _ _ _ _ _ _ _ _ _ _ _ _ _ _ _ _ _ _ _ _ _ _ _ hI a
end
end Go.Proofs.YtnigabjngpnbiabGreat
