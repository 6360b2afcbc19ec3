/- Part 1 of the proof. No condition of its own. -/
import Derived.BigQuiet
import Derived.Deep.Cut
import Derived.Deep.DrawnRows
import Derived.Deep.Draws
import Derived.Deep.QuietTactic
import Derived.Deep.RegionHeld3
import Derived.DeepKeys
import Derived.Handy
import Derived.IntWalk
import Derived.Laws.CopyOwn
import Derived.Laws.IdiomStrings
import Derived.Laws.StructEq
import Derived.Lib.Bytes
import Derived.Lib.SlBytesConst
import Derived.Lib.SlBytesRow
import Derived.Maps.AppendAt
import Derived.OrdersHeld
import Derived.RegionTactic
import Derived.StillTail
import Derived.Test.YtflecliffjbleaaGreatRows
import Derived.WalkKit
import Derived.WalkLawsBesides
import Derived.WalkSpells
import Derived.Test.YtflecliffjbleaaGreatS00
namespace Go.Proofs.YtflecliffjbleaaGreat
open Go.RowKit Go.Proofs.Tryz
set_option maxRecDepth 1000000
set_option maxHeartbeats 25600000
set_option linter.unusedVariables false
theorem Lz:type_of% @Nat.le_refl:=@Nat.le_refl
theorem LC:type_of% @Nat.lt_of_lt_of_le:=@Nat.lt_of_lt_of_le
theorem LD:type_of% @List.length_append:=@List.length_append
theorem LF:type_of% @List.mem_of_getElem?:=@List.mem_of_getElem?
theorem LG:type_of% @List.length_map:=@List.length_map
theorem LH:type_of% @Int.eq_ofNat_of_zero_le:=@Int.eq_ofNat_of_zero_le
theorem LI:type_of% @List.map_cons:=@List.map_cons
theorem LJ:type_of% @List.map_append:=@List.map_append
theorem LK:type_of% @List.take_of_length_le:=@List.take_of_length_le
theorem LL:type_of% @List.mem_append:=@List.mem_append
theorem LM:type_of% @Nat.add_zero:=@Nat.add_zero
theorem LN:type_of% @List.length_singleton:=@List.length_singleton
theorem LO:type_of% @Bool.and_eq_true:=@Bool.and_eq_true
theorem LP:type_of% @List.length_cons:=@List.length_cons
theorem LQ:type_of% @List.append_assoc:=@List.append_assoc
theorem LR:type_of% @List.cons_append:=@List.cons_append
theorem LS:type_of% @List.mem_cons:=@List.mem_cons
theorem LU:type_of% @Nat.le_trans:=@Nat.le_trans
theorem LW:type_of% @Nat.zero_add:=@Nat.zero_add
theorem LX:type_of% @List.length_nil:=@List.length_nil
theorem LY:type_of% @List.flatMap_cons:=@List.flatMap_cons
theorem LZ:type_of% @Int.toNat_natCast:=@Int.toNat_natCast
theorem L3:type_of% @Nat.zero_le:=@Nat.zero_le
theorem L4:type_of% @List.map_nil:=@List.map_nil
theorem L5:type_of% @List.mem_map:=@List.mem_map
theorem L6:type_of% @List.append_nil:=@List.append_nil
theorem L8:type_of% @List.nil_append:=@List.nil_append
theorem Ma:type_of% @List.mem_singleton:=@List.mem_singleton
theorem Mb:type_of% @Option.some.injEq:=@Option.some.injEq
theorem Mc:type_of% @List.drop_eq_nil_of_le:=@List.drop_eq_nil_of_le
theorem Md:type_of% @decide_eq_true_eq:=@decide_eq_true_eq
theorem Me:type_of% @Bool.false_eq_true:=@Bool.false_eq_true
theorem Mf:type_of% @bodyPost_ret:=@bodyPost_ret
theorem Mg{M:Nat->Prop}{w:World}:Fr M w w:=Fr.refl _ _
theorem Mh{w:World}{t:TypeId}{cs:Array Value}:ao (w.alloc (.cells cs t)) w.heap.size t cs:=ao.new _ _ _
theorem ad{p:Prop}(h:p:=by omega):p:=h
theorem aB{p q:Prop}(x:q)(h:q->p:=by intro this;omega):p:=h x
theorem nz{p q r:Prop}(x:q)(y:r)(h:q->r->p:=by intro this this;omega):p:=h x y
theorem aH{A B:Prop}(a:A)(b:B):Mm A/\Mm B:=⟨ae a,ae b⟩
theorem eS{A B C:Prop}(a:A)(b:B)(c:C):Mm A/\Mm B/\Mm C:=⟨ae a,ae b,ae c⟩
theorem jc{A B C D:Prop}(a:A)(b:B)(c:C)(d:D):Mm A/\Mm B/\Mm C/\Mm D:=⟨ae a,ae b,ae c,ae d⟩
theorem DG{A B C D E:Prop}(a:A)(b:B)(c:C)(d:D)(e:E):Mm A/\Mm B/\Mm C/\Mm D/\Mm E:=⟨ae a,ae b,ae c,ae d,ae e⟩
theorem DH{A B C D E F G:Prop}(a:A)(b:B)(c:C)(d:D)(e:E)(f:F)(g:G):Mm A/\Mm B/\Mm C/\Mm D/\Mm E/\Mm F/\Mm G:=⟨ae a,ae b,ae c,ae d,ae e,ae f,ae g⟩
theorem aE{p:Prop}(h:p:=by simp[intOf];omega):p:=h
theorem ah{A B:Prop}(a:A)(b:B):Mm (A/\B):=ae ⟨a,b⟩
theorem aA{A B C:Prop}(a:A)(b:B)(c:C):Mm (A/\B/\C):=ae ⟨a,b,c⟩
theorem bA{A B C D:Prop}(a:A)(b:B)(c:C)(d:D):Mm (A/\B/\C/\D):=ae ⟨a,b,c,d⟩
theorem cX{A B C D E:Prop}(a:A)(b:B)(c:C)(d:D)(e:E):Mm (A/\B/\C/\D/\E):=ae ⟨a,b,c,d,e⟩
theorem dI{A B C D E F:Prop}(a:A)(b:B)(c:C)(d:D)(e:E)(f:F):Mm (A/\B/\C/\D/\E/\F):=ae ⟨a,b,c,d,e,f⟩
theorem hj{A B C D E F G:Prop}(a:A)(b:B)(c:C)(d:D)(e:E)(f:F)(g:G):Mm (A/\B/\C/\D/\E/\F/\G):=ae ⟨a,b,c,d,e,f,g⟩
theorem rE{A B C D E F G H:Prop}(a:A)(b:B)(c:C)(d:D)(e:E)(f:F)(g:G)(h:H):Mm (A/\B/\C/\D/\E/\F/\G/\H):=ae ⟨a,b,c,d,e,f,g,h⟩
theorem xH{A B C D E F G H I:Prop}(a:A)(b:B)(c:C)(d:D)(e:E)(f:F)(g:G)(h:H)(i:I):Mm (A/\B/\C/\D/\E/\F/\G/\H/\I):=ae ⟨a,b,c,d,e,f,g,h,i⟩
theorem As{A B C D E F G H I J:Prop}(a:A)(b:B)(c:C)(d:D)(e:E)(f:F)(g:G)(h:H)(i:I)(j:J):Mm (A/\B/\C/\D/\E/\F/\G/\H/\I/\J):=ae ⟨a,b,c,d,e,f,g,h,i,j⟩
theorem aZ{w W:World}{o1:Obj}(h:w.alloc o1=W):Ext w W:=by subst h;exact Mg.alloc _
theorem hi{w W:World}{o1 fk:Obj}(h:(w.alloc o1).alloc fk=W):Ext w W:=by subst h;exact(Mg.alloc _).alloc _
theorem l3{w W:World}{o1 fk o3:Obj}(h:((w.alloc o1).alloc fk).alloc o3=W):Ext w W:=by subst h;exact((Mg.alloc _).alloc _).alloc _
theorem I9{w W:World}{o1 fk o3 o4:Obj}(h:(((w.alloc o1).alloc fk).alloc o3).alloc o4=W):Ext w W:=by subst h;exact(((Mg.alloc _).alloc _).alloc _).alloc _
theorem aN{w W:World}{t:TypeId}{cs:Array Value}(h:w.alloc (.cells cs t)=W):ao W (w.heap.size) t cs:=by subst h;exact Mh
theorem fx{w W:World}{fk:Obj}{t:TypeId}{cs:Array Value}(h:(w.alloc (.cells cs t)).alloc fk=W):ao W (w.heap.size) t cs:=by subst h;exact(Mh).alloc _
theorem eX{w W:World}{o1:Obj}{t:TypeId}{cs:Array Value}(h:(w.alloc o1).alloc (.cells cs t)=W):ao W (w.heap.size+1) t cs:=by subst h;exact ao.gA _ _ _ (by simp)
theorem kr{w W:World}{fk o3:Obj}{t:TypeId}{cs:Array Value}(h:((w.alloc (.cells cs t)).alloc fk).alloc o3=W):ao W (w.heap.size) t cs:=by subst h;exact((Mh).alloc _).alloc _
theorem iC{w W:World}{o1 o3:Obj}{t:TypeId}{cs:Array Value}(h:((w.alloc o1).alloc (.cells cs t)).alloc o3=W):ao W (w.heap.size+1) t cs:=by subst h;exact(ao.gA _ _ _ (by simp)).alloc _
theorem ks{w W:World}{o1 fk:Obj}{t:TypeId}{cs:Array Value}(h:((w.alloc o1).alloc fk).alloc (.cells cs t)=W):ao W (w.heap.size+2) t cs:=by subst h;exact ao.gA _ _ _ (by simp)
theorem HR{w W:World}{o1 fk:Obj}{t:TypeId}{cs:Array Value}(h:((w.alloc o1).alloc fk).alloc (.cells cs t)=W):ao W (w.heap.size+1+1) t cs:=by subst h;exact ao.gA _ _ _ (by simp)
theorem GP{w W:World}{fk o3 o4:Obj}{t:TypeId}{cs:Array Value}(h:(((w.alloc (.cells cs t)).alloc fk).alloc o3).alloc o4=W):ao W (w.heap.size) t cs:=by subst h;exact(((Mh).alloc _).alloc _).alloc _
theorem GQ{w W:World}{o1 o3 o4:Obj}{t:TypeId}{cs:Array Value}(h:(((w.alloc o1).alloc (.cells cs t)).alloc o3).alloc o4=W):ao W (w.heap.size+1) t cs:=by subst h;exact((ao.gA _ _ _ (by simp)).alloc _).alloc _
theorem GR{w W:World}{o1 fk o4:Obj}{t:TypeId}{cs:Array Value}(h:(((w.alloc o1).alloc fk).alloc (.cells cs t)).alloc o4=W):ao W (w.heap.size+2) t cs:=by subst h;exact(ao.gA _ _ _ (by simp)).alloc _
theorem GS{w W:World}{o1 fk o3:Obj}{t:TypeId}{cs:Array Value}(h:(((w.alloc o1).alloc fk).alloc o3).alloc (.cells cs t)=W):ao W (w.heap.size+3) t cs:=by subst h;exact ao.gA _ _ _ (by simp)
theorem hh{w W:World}{o1:Obj}(h:(w.alloc o1).drew=W):Ext w W:=by subst h;exact(Mg.alloc _).drew
theorem lP{w W:World}{t:TypeId}{cs:Array Value}(h:(w.alloc (.cells cs t)).drew=W):ao W (w.heap.size) t cs:=by subst h;exact(Mh).drew
theorem cJ{w X:World}{g o:Nat}{v:Value}(h:w.setCell ⟨g,o,none⟩ v=X):Fr (λb=>b=g) w X:=by subst h;exact(Fr.refl (λb=>b=g) w).setCell (.inl rfl) _
theorem FD{w X:World}{g o p:Nat}{v u:Value}(h:(w.setCell ⟨g,o,none⟩ v).setCell ⟨g,p,none⟩ u=X):Fr (λb=>b=g) w X:=by subst h;exact((Fr.refl (λb=>b=g) w).setCell (.inl rfl) _).setCell (.inl rfl) _
theorem GU{p:Prop}(h:p:=by
 have bT:=ae (aa.o b3);clear aa bM;go_wp2_with(fail);refine(fT s bE TA HA bK bw tn tc hn hc aW (ag.2.2.2.2.2.2.1.on a7.o).at_ aR.sm).mono ?_;rintro e b4 ⟨bc,L,a4,S,bl,aX,xs,F1,F2,bI,b9,rfl,cm,bm,a3⟩;have bY:=aA cm bm a3;have cF:=a3.size;clear cm bm a3 a8 am aJ d0 aK aO;go_upto_region 13 with(fail);generalize hV:World.alloc _ _=V;have bo:=aZ hV;have b5:=aN hV;have hOut:dC aP.heap.size V s b4.heap.size ⟨bc,bK,L,a4,tn,S,bl,hn,aX⟩ xs F1 F2 bI b9:=
  ⟨bY.1.ak λb O=>bo.block b (bY.2.1 b O).2 λh=>h,b5,λO=>by have:=(bY.2.1 _ O).2;omega,λb O=>⟨by have:=(bY.2.1 b O).1;omega,by have:=(bY.2.1 b O).2;have:=bo.size;omega⟩,ad⟩
 have y:Ext W V:=(a7.trans bY.2.2).trans bo;have k:V.ownsRow 0 95 2 (.slice I tn aD) tn (T.flatMap cb):=iR (bR (bR Q.1 (Fr.ext bY.2.2)) (Fr.ext bo)) (L3 _);have r:∀b∈bx I tn aD,aP.heap.size<=b/\b<aW.heap.size:=λb O=>Q.1.lt b (by simpa using O);have cc:=bA hOut y k r;obtain⟨e0,a6,aQ⟩:=hOut.o.two;clear hV bo b5 hOut y k r;go_upto_region 14 with(fail);generalize hX:World.setCell _ _ _=X;have cq:dC aP.heap.size X {s with table:=T} b4.heap.size ⟨bc,bK,L,I,tn,aD,bl,hn,aX⟩ xs F1 (bx I tn aD) bI b9:=
  cc.1.IS cc.2.2.1 Q.2 (λb O=>⟨λhm=>by have:=(bY.2.1 b hm).1;have:=(cc.2.2.2 b O).2;omega,by have:=(cc.2.2.2 b O).2;omega,(cc.2.2.2 b O).1⟩) hX
 have b6:=cJ hX;have ck:Ext W X:=Fr.low (M:=λb=>b=b4.heap.size) (Fr.trans (Fr.mono cc.2.1 λ_ h=>h.elim) b6) λb O=>ad;obtain⟨bW,c1,i2,cH,dh,c0,di,cf,ct,aE,J⟩:=cq.top (fs:=fs) (f:=f) bS.2.2.1 bS.2.1 bS.1 bS.2.2.2.1;have av:=aA aE J ck;clear e0 a6 aQ;obtain⟨e0,a6,aQ⟩:=cq.o.two;clear hX cq b6 ck aE J cf ct;go_wp2_with(fail);refine(av.1 X Mg).mono ?_;rintro e cI ⟨rfl,bL⟩;have P:=ae (av.2.1 cI bL);have cd:=ae (av.2.2.trans bL);clear e0 a6 aQ bL;have ce:=P.c1;have g2:=P.fz;have cN:=P.lt;have cZ:=cj.2.2.1;go_upto_region 15 with(fail);generalize hX:World.setCell _ _ _=Y;have bH:sD aP.heap.size Y {s with table:=T,threads:=s.threads.set t.toNat (fs++[next f])} b4.heap.size ⟨bc,bK,L,I,tn,aD,bl,hn,aX⟩ xs F1 (bx I tn aD) bI b9 t fs (next f) bW c1 i2 cH dh c0 di:=hX▸P.JO bS.2.2.1 (f.pc+1);have ar:=cJ hX;have ds:=P.ge;have bn:Ext W Y:=Fr.low (M:=λb=>b=bW) (Fr.trans (Fr.mono cd.o λ_ h=>h.elim) ar) λb O=>ad;have bF:=aA bH.oz (ag.2.2.2.2.1.aj bn) (ag.1.trans bn);obtain⟨bp,aM,aV⟩:=bF.2.1.two;obtain⟨e0,a6,aQ⟩:=bH.oz.o.two;clear hX bH ar bn ce g2 cN P;go_wp2_with(fail);generalize hX:World.setCell _ _ _=Z;obtain⟨bt,ba,bf⟩:=bs (w:=w) [.slice bc bK L,.slice I tn aD,.slice bl hn aX,.int .i64 s.fault] (by rfl) bF.2.1 bF.2.2 ad hX;have i:=ah ba bf;clear hX ba bf bp aM aV e0 a6 aQ;obtain⟨bp,aM,aV⟩:=bt.two;refine Mf (v:=.tuple #[.agg #[.slice bc bK L,.slice I tn aD,.slice bl hn aX,.int .i64 s.fault],.bool true]) (by simp[results,Tryz.results52,go_sem,bp]) rfl ?_;rw[bT.o]
 show c8 nQ w {bq s t (next f) with table:=T} true _ _
 exact g4 (aq:={bq s t (next f) with table:=T}) (q:=⟨bc,bK,L,I,tn,aD,bl,hn,aX⟩) bF.1 i.2 (λb O=>ad) ad i.1 (by rw[ej bS.2.2.1])
 ):p:=h
theorem er{p:Prop}(h:p:=by
 rw[if_neg (by first|omega|(simp only[ByteArray.size_append];omega)|(simp;omega))]
 ):p:=h
theorem GV{p:Prop}(h:p:=by
 have dL:=bA G i x ca.2.2;clear G i x b1 y al;have f2:=dL.2.1.size;by_cases fm:j+1<N
 .refine(show Calls prog 62 #[.pointer (some ⟨g,0,none⟩),.string ⟨#[44]⟩] cA _ from cG [44] g A n c T (k+1+3*j+2) deep cA dL.1 true (by rw[bS.2.2.co j ad];exact decide_eq_true ad) (λ_=>ad)).mono ?_;rintro e cL ⟨rfl,be,f⟩;have R:=aA (show bG cL g A n c T (k+1+3*(j+1)) deep from by rw[show k+1+3*(j+1)=k+1+3*j+2+1 by omega];simpa using be) (dL.2.1.trans f) (dL.2.2.1.cS f λb O _=>⟨ad,ad⟩);clear be f;go_wp2_with(fail);go_roundw
  case rel=>exact⟨j+1,cD,c3,rfl,fm,R.o⟩
  case measure=>simp[En];omega
 .refine(show Calls prog 62 #[.pointer (some ⟨g,0,none⟩),.string ⟨#[44]⟩] cA _ from cG [44] g A n c T (k+1+3*j+2) deep cA dL.1 false (by rw[bS.2.2.co j ad];exact decide_eq_false ad) (λh=>by cases h)).mono ?_;rintro e cL ⟨rfl,be,f⟩;have R:=aA (show bG cL g A n c T (k+1+3*j+2) deep from by simpa using be) (dL.2.1.trans f) (dL.2.2.1.cS f λb O _=>⟨ad,ad⟩);clear be f;go_wp2_with(fail);refine(show Calls prog 106 #[.pointer (some ⟨g,0,none⟩),.string ⟨#[41]⟩] cL _ from kd [41] g A n c T (k+1+3*j+2) deep cL R.1 (bS.2.2.cl j ad) ad).mono ?_;rintro e fn ⟨rfl,be,s⟩;have K:=R.2.2.cS s λb O _=>⟨ad,ad⟩
  have q:=aA (show bG fn g A n c T (k+1+3*N) deep from by rw[show k+1+3*N=k+1+3*j+2+1 by omega];exact be) (R.2.1.trans s) K;clear be s K;go_wp2_with(fail);go_ret;refine⟨cD,j+1,c3,rfl,dL.2.2.2,by rw[hN];exact q.1,q.2.1,?_⟩;have hG:=q.2.2;rw[LK ad] at hG;exact hG.sl (λb ap O=>⟨O,ap⟩) (λb ap O=>⟨O,ap⟩)
 ):p:=h
theorem GW{p:Prop}(h:p:=by
 go_upto_region 31 with(fail);refine eK (λ_=>False) [(0,3),(1,3),(2,3),(3,3),(4,3),(5,0),(6,0),(7,1),(8,2),(9,3),(10,3),(11,3),(12,2)] ?_
 iterate 5 refine pf ?_
 iterate 2 refine ph ?_
 refine ry ?_;generalize bG:World.drew (World.alloc _ _)=Z;have ba:=hh bG;have bt:=lP bG;have a3:=hy.next (hy.src.cT ba λ_ _ h=>h) (ba.mono λ_ h=>h.elim);have dx:=bT.2.2.2.aj ba;have hb:∀b,(Value.slice FA i fc).ownBlock=some b->u<=b/\b<T.heap.size:=λb O=>cj.fs.lt O;have iu:=cj.hD;have b0:Sl Z (ly (λb=>u<=b) Z (.slice FA i fc)) PA pn (ps.map cz):=dx.sl (λb _ h=>h.elim) (λb O aS=>⟨ad,O,λh=>by have:=(hb b h).2;omega⟩);have ir:T.heap.size<=Z.heap.size:=by have:=bT.2.1.size;have:=ba.size;omega
 have bh:=bA a3 bt b0 bT.2.2.2.cap.1;have h3:=ae hb;have iw:=cj.blk.lt;clear bG ba bt a3 dx b0 hb a0 ak af f0 dQ eW;refine au rfl (λK hK=>?_);rw[if_pos (by rfl)];refine fm HY (.tmp 177) (.tmp 179) (by rfl) bh.1.fs bh.2.1 (Gu bh.2.2.2 bh.2.2.1) (by rfl) (by rfl) (by rfl) ad ad ad ?_;intro hY hR fn bc z ce ca;have a9:=bh.1.blk.on z (λO=>by have:=(h3.o _ O).1;omega);have aV:=ah bc z;clear bc z ce ca;obtain⟨a0,ak,af⟩:=a9.two;clear a9;refine dU hK ?_;clear hK K
 iterate 3 refine pf ?_
 refine au rfl (λK hK=>?_);go_simp;refine dU hK ?_;clear hK K;refine aC ?_;generalize b1:World.setCell _ _ _=gX;obtain⟨bn,cb,gT⟩:=h4.o;have f:=bh.1.add aV.1 aV.2 ad (cj.J2.snoc cr cb gT gS.1);rw[b1] at f;have bq:=ae f;clear b1 f a0 ak af gT;go_wp2_with(fail);go_roundw
 case rel=>exact⟨i+1,hY,hR,F++[⟨jI i,ps,.nil⟩],by go_num,ad,bq.o⟩
 case measure=>exact aE
 ):p:=h
theorem GX{p:Prop}(h:p:=by
 go_upto_region 24 with(fail);generalize bO:World.alloc _ _=A;have l:=aZ bO;have n:=aN bO;have r:=cd.trans l;have y:=aA (RO.aj aR.1 r) (aR.2.1.trans r) (aR.2.2.trans r);have ap:=ah n l;have aS:=l.size;have dE:=cd.size;have Y:=ae y.2.2;clear bO l r;obtain⟨a8,am,aJ⟩:=(ag.2.2.1.aj y.2.2).two;obtain⟨d0,aK,aO⟩:=(ca.aj y.2.1).two;obtain⟨e0,a6,aQ⟩:=y.1.o.two;obtain⟨bq,k,flb,ab,J,c0,c1,c2,c3,a7⟩:=y.1.top;obtain⟨f0,dQ,eW⟩:=n.two;clear n;have dm:=Y.size;go_wp2_with(fail);refine(py P s ⟨bE,bK,bw,TA,tn,tc,HA,hn,hc⟩ z A (cc.2.2.Hw H.o (ag.1.trans Y.o)) (λb O=>LC (H.o b O) (ag.1.trans Y.o).size)).mono ?_;rintro e cA ⟨⟨dC,bn,bI,dl,bm,bl,bW,cH,cf⟩,rfl,b8,b7⟩;have f2:=b7.size;have cK:=ae b8;have a2:=ah (ag.2.2.2.1.aj (Y.trans b7)) ((ag.1.trans Y.o).trans b7);clear b8 b7 f0 dQ eW d0 aK aO e0 a6 aQ c0 c1 c2 c3 J flb ab bq k a7 a8 am aJ;obtain⟨bp,aM,aV⟩:=a2.1.two;go_wp2_with(fail);generalize hX:World.setCell _ _ _=Z;obtain⟨bt,ba,bf⟩:=bs (w:=w) [.slice dC bn bI,.slice dl bm bl,.slice bW cH cf,.int .i64 z] (by rfl) a2.1 a2.2 ad hX;have bh:=ah ba bf;clear hX ba bf bp aM aV;obtain⟨bp,aM,aV⟩:=bt.two;refine Mf (v:=.tuple #[.agg #[.slice dC bn bI,.slice dl bm bl,.slice bW cH cf,.int .i64 z],.bool true]) (by simp[results,Tryz.results20,go_sem,bp]) rfl ?_;rw[bT.o];exact ft (B:=A.heap.size) (aq:={s with fault:=z}) cK.o bh.2 (λb O=>⟨λhl=>by have:=H.o b hl;omega,ad⟩) (λb O=>by have:=H.o b O;omega) ad bh.1 rfl
 ):p:=h
theorem GY{p:Prop}(h:p:=by
 rintro r aP ⟨rfl,bX⟩;have aL:Ext w aP:=aF.trans (Fr.of bX);obtain⟨p0,ai,eE⟩:=(d.aj (Fr.of bX)).two;have gR:=(aL.cell (j:=bs+i*3+2) cd (λh=>h)).trans f2;have bu:=ae aL;clear aF aL d e0 e1 e2 e3 f0 f1 f2 cS cv bX;generalize ev g l e=r at *;obtain⟨v,f⟩:=r;by_cases J:f=0
 case neg=>
  have q5:(f != 0)=true:=by simpa using J
  have cM:=ae (show idx bS.size (v,f)=(0,f) by unfold idx;rw[if_pos J]);clear J;go_wp2
  go_ret2
  exact gp.mk' cM.o (Fr.ext bu.o)
 have q5:(f != 0)=false:=by simpa using J
 by_cases bG:v<0
 .have dp:decide (v<0)=true:=by simpa using bG
  have cM:=ae (show idx bS.size (v,f)=(0,2) by unfold idx;rw[if_neg (by simpa using J),if_pos (.inl bG)]);clear J bG;go_wp2
  go_ret2
  exact gp.mk' cM.o (Fr.ext bu.o)
 have dp:decide (v<0)=false:=by simpa using bG
 by_cases u:bS.size<=v
 .have q7:decide (v>=bS.size)=true:=by simpa using u
  have cM:=ae (show idx bS.size (v,f)=(0,2) by unfold idx;rw[if_neg (by simpa using J),if_pos (.inr u)]);clear J bG u;go_wp2
  go_ret2
  exact gp.mk' cM.o (Fr.ext bu.o)
 .have q7:decide (v>=bS.size)=false:=by simpa using u
  have cM:=ae (show idx bS.size (v,f)=(v,0) by unfold idx;rw[if_neg (by simpa using J),if_neg ad]);clear J bG u;go_wp2
  go_ret2
  exact gp.mk' cM.o (Fr.ext bu.o)
 ):p:=h
theorem xI{p:Prop}(h:p:=by
 go_wp2;go_roundw
 case rel=>exact⟨k+1,ad,by go_num,by rw[<-S.o],bj.trans (z.trans bu.o)⟩
 case measure=>exact aE
 ):p:=h
theorem GZ{p:Prop}(h:p:=by
 by_cases cy:hd.depth - 1=0
 .have D:(hd.depth - 1 == 0)=true:=by simpa using cy
  have dL:=ae cy;clear cy;go_wp2
  go_ret2
  refine gQ.mk' (A:=some ⟨g,0,none⟩) (c:=c1) (n:=n2) R.o ?_ ?_ bT.o
  .rw[b2.o,down,if_pos dL.o];have bi:(T.set k ⟨hd.owner,hd.depth - 1⟩)[k]?=some ⟨hd.owner,hd.depth - 1⟩:=by rw[List.getElem?_set_self ad]
   obtain⟨ah,j,_,_,_,_,_,F,_⟩:=jP z.o a7 bi;injection j with j;injection j with j;subst j;have:=F 0;rw[List.set_set] at this;exact this
  .exact(O.setCell (by simpa using aY) _).setCell (by simpa using aY) _
 .have D:(hd.depth - 1 == 0)=false:=by simpa using cy
  have dL:=ae cy;clear cy;go_wp2
  go_ret2
  refine gQ.mk' (A:=some ⟨g,0,none⟩) (c:=c1) (n:=n2) R.o ?_ ?_ bT.o
  .rw[b2.o,down,if_neg dL.o];exact z.o
  .exact O.setCell (by simpa using aY) _
 ):p:=h
theorem G0{p:Prop}(h:p:=by
 have bT:=ae (aa.o b3);have a2:=ah (ag.2.2.2.1.aj bF.2.2) (ag.1.trans bF.2.2);have dh:=bF.2.2.size;obtain⟨bp,aM,aV⟩:=a2.1.two;obtain⟨e0,a6,aQ⟩:=bF.2.1.two;go_wp2_with(fail);generalize hX:World.setCell _ _ _=Z;obtain⟨bt,ba,bf⟩:=bs (w:=w) [.slice bV cx L,.slice I tn aD,.slice (some ⟨O,0,none⟩) bJ aX,.int .i64 s.fault] (by rfl) a2.1 a2.2 ad hX;have bh:=ah ba bf;clear hX ba bf bp aM aV e0 a6 aQ;obtain⟨bp,aM,aV⟩:=bt.two;refine Mf (v:=.tuple #[.agg #[.slice bV cx L,.slice I tn aD,.slice (some ⟨O,0,none⟩) bJ aX,.int .i64 s.fault],.bool true]) (by simp[results,Tryz.results20,go_sem,bp]) rfl ?_;exact BV
 ):p:=h
theorem G1{p:Prop}(h:p:=by
 have a2:=ah (ag.2.2.2.1.aj bF.2.2) (ag.1.trans bF.2.2);have dh:=bF.2.2.size;obtain⟨bp,aM,aV⟩:=a2.1.two;obtain⟨e0,a6,aQ⟩:=bF.2.1.two;go_wp2_with(fail);generalize hX:World.setCell _ _ _=Z;obtain⟨bt,ba,bf⟩:=bs (w:=w) [.slice bV cx L,.slice bA m S,.slice (some ⟨O,0,none⟩) bJ aX,.int .i64 s.fault] (by rfl) a2.1 a2.2 ad hX;have bh:=ah ba bf;clear hX ba bf bp aM aV e0 a6 aQ;obtain⟨bp,aM,aV⟩:=bt.two;refine Mf (v:=.tuple #[.agg #[.slice bV cx L,.slice bA m S,.slice (some ⟨O,0,none⟩) bJ aX,.int .i64 s.fault],.bool true]) (by simp[results,Tryz.results20,go_sem,bp]) rfl ?_;rw[bT.o];exact ft (B:=V.heap.size) bF.1 bh.2 (λb O=>⟨λhl=>by have:=H.o b hl;omega,ad⟩) (λb O=>by have:=H.o b O;omega) ad bh.1 (by rw[ej bS.2.1,List.set_set];rfl)
 ):p:=h
theorem DI{p:Prop}(h:p:=by
 exact BV
 ):p:=h
theorem G2{p:Prop}(h:p:=by
 have aN:=ah S aD;have b5:=ag.2.2.2.1.on bY.2 (λh=>by have:=ag.2.2.2.2;omega);have aI:=ae b5;obtain⟨e0,a6,aQ⟩:=b5.two;clear h he S aD b5;go_wp2_with(fail);generalize cq:World.setCell _ _ _=Y;obtain⟨bD,bx,bJ⟩:=ef (M:=λb=>b=s) [.int .i64 1,.int .i64 cR,.string ⟨#[]⟩,.slice none 0 0] (by rfl) aI.o (ag.2.2.1.trans bY.2) (Lz _) cq;obtain⟨bp,aM,aV⟩:=bD.two;refine Mf (v:=.agg #[.int .i64 1,.int .i64 cR,.string ⟨#[]⟩,.slice none 0 0]) (by simp[results,Tryz.results140,go_sem,bp]) rfl ?_;exact⟨.num cR,none,0,0,rfl,(by cases d<;>exact aN.o),Lz _,Sl.bT _,bY.1.cT bJ (λb O h=>by have:=ag.2.2.2.2;omega),bx⟩
 ):p:=h
theorem G3{p:Prop}(h:p:=by
 clear h;go_enter func55,ntmps55;go_upto_region 1 with(fail);generalize bd:World.alloc _ _=W;have aF:=hi bd;have aS:=fx bd;have cB:=eX bd;obtain⟨a0,ak,af⟩:=aS.two;obtain⟨bp,aM,aV⟩:=cB.two;have bj:=ah aF cB;clear bd aF aS cB;go_wp2_with(fail);generalize hX:World.setCell _ _ _=X;obtain⟨bC,bz,ct⟩:=bs (w:=w) [.int .i64 0,.int .i64 0,.slice none 0 0,.slice none 0 0] (by rfl) bj.2 bj.1 ad hX;have aR:=ae bz;clear hX bz ct a0 ak af bp aM aV;exact BU
 ):p:=h
theorem G4{p:Prop}(h:p:=by
 obtain⟨bp,aM,aV⟩:=a2.1.two;go_wp2_with(fail);generalize hX:World.setCell _ _ _=Z;obtain⟨bt,ba,bf⟩:=bs (w:=w) [.slice dC bn bI,.slice dl bm bl,.slice bW cH cf,.int .i64 z] (by rfl) a2.1 a2.2 ad hX;have bh:=ah ba bf;clear hX ba bf bp aM aV;obtain⟨bp,aM,aV⟩:=bt.two;refine Mf (v:=.tuple #[.agg #[.slice dC bn bI,.slice dl bm bl,.slice bW cH cf,.int .i64 z],.bool true]) (by simp[results,Tryz.results20,go_sem,bp]) rfl ?_;rw[bT.o];exact ft (B:=cI.heap.size) (aq:={s with fault:=z}) cK.o bh.2 (λb O=>⟨λhl=>by have:=H.o b hl;omega,ad⟩) (λb O=>by have:=H.o b O;omega) ad bh.1 rfl
 ):p:=h
theorem Ja{p:Prop}(h:p:=by
 exact BU
 ):p:=h
theorem G5{p:Prop}(h:p:=by
 have c0:=Z 0 b1 rfl;have c1:=Z 1 cn rfl;have c2:=Z 2 cm rfl;have c3:=Z 3 bv rfl;simp only[LM] at c0;have a4:b<wr.heap.size:=O;clear Z O;obtain⟨B,br,bc,e,cv,ci⟩:=aX.1 aa;simp only[List.cons.injEq,and_true] at e;obtain⟨rfl,rfl,rfl,rfl⟩:=e;obtain⟨bF,H⟩:=aH bb aa;clear bb aa ci;go_wp2_with(fail);refine(cM.o k z bF.o _ _ _ _ _ _ wr H.o).mono ?_;rintro e aW ⟨rfl,bL⟩;have a7:=ae (bj.trans bL);have b9:=ae (bH.aj bL);clear bL;exact B0
 ):p:=h
theorem G6{p:Prop}(h:p:=by
 go_wp2_with(fail);refine(show Calls prog 106 #[.pointer (some ⟨g,0,none⟩),.string ⟨#[40]⟩] w _ from kd [40] g A n c T k deep w H.o bS.1 ad).mono ?_;rintro e aP ⟨rfl,be,hF⟩;have H1:=ah be hF;clear be hF;go_wp2_with(fail);refine(show Calls prog 62 #[.pointer (some ⟨g,0,none⟩),.string ⟨#[41]⟩] aP _ from cG [41] g A n c T (k+1) deep aP H1.1 true bS.2 (λ_=>ad)).mono ?_;rintro e aW ⟨rfl,be,hF⟩;have bZ:=ah (show bG aW g A n c T (k+2) deep from by simpa using be) (H1.2.trans hF);clear be hF H1;go_wp2_with(fail);go_ret;exact⟨rfl,bZ.o⟩
 ):p:=h
theorem G7{p:Prop}(h:p:=by
 refine gQ.mk' (A:=some ⟨g,0,none⟩) (c:=c1) (n:=n2) R.o ?_ ?_ bT.o
 .rw[b2.o];have bi:(T.set k ⟨th+1,hd.depth⟩)[k]?=some ⟨th+1,hd.depth⟩:=by rw[List.getElem?_set_self ad]
  obtain⟨ah,j,_,_,_,_,_,_,s1⟩:=jP l.o a7 bi;injection j with j;injection j with j;subst j;have:=s1 (hd.depth+1);rw[List.set_set] at this;exact this
 .exact(di.setCell (by simpa using aY) _).setCell (by simpa using aY) _
 ):p:=h
theorem G8{p:Prop}(h:p:=by
 rw[aU bS.o,qH,<-List.append_assoc,LJ,bG];have ac:=(an.dh (ab:=X) b6.size λb ap hp=>b6.block b ap λhe=>by
  subst he;rcases hp with hp|hp
  .exact hp.elim
  .exact cH.1 hp).dh (ab:=cQ) I.size λb ap hp=>I.block b ap λhe=>by
  subst he;rcases hp with hp|hp
  .exact hp.elim
  .exact cH.2 hp
 show Gr (λ_=>False) W.heap.size 147 3 cQ A2 (ln+k+1) c2 _
 simpa using ac
 ):p:=h
theorem G9{p:Prop}(h:p:=by
 go_wp2_with(fail);generalize cq:World.setCell _ _ _=Y;obtain⟨bD,bx,bJ⟩:=ef (M:=λ_=>False) [.slice none 0 0,.slice none 0 0,.slice none 0 0] (by rfl) bM.2.2.1 (w:=w) bM.1 ad cq;obtain⟨bp,aM,aV⟩:=bD.two;refine Mf (v:=.tuple #[.agg #[.slice none 0 0,.slice none 0 0,.slice none 0 0],.int .i64 11]) (by simp[results,Tryz.results57,go_sem,bp]) rfl ?_;exact⟨_,_,_,_,_,_,_,_,_,_,rfl,bx⟩
 ):p:=h
theorem Ha{p:Prop}(h:p:=by
 go_wp2_with(at_builtin;refine cy aW kE rfl (.tmp 28) (.tmp 30) rfl (w.heap.size+1) _ k _ #[_] rfl bf.o rfl rfl (by simp[Value.oneCell']) ad ad ci ?_;intro bx b4 f fh aB;obtain⟨cD,c3,rfl,aO,_⟩:=bH f);go_roundw
 case rel=>
  refine⟨k+1,ad,by go_num,l.on (Ia bf.o fh λg aY=>aY),?_⟩;rw[xh X.o,<-S.o];exact f
 case measure=>exact aE
 ):p:=h
theorem Jb{p:Prop}(h:p:=by
 obtain⟨cQ,ci,_,aa,_⟩:=h.hF.ex;rw[h.hp] at ci;injection ci with ci;subst ci;rcases al with⟨ac,ax,a1,aU,cy⟩|⟨ac,_⟩|⟨ac,_⟩|⟨ac,_,ax,a1,aU⟩|⟨ac,_⟩|⟨ac,_⟩
 .exact⟨ax,a1,λ_ aY=>by have:=aU aY;simpa[br] using this,λ_ aY=>by have:=cy aY;omega⟩
 .omega
 .omega
 .exact⟨ax,a1,λh=>ad,λh=>ad⟩
 .omega
 .omega
 ):p:=h
theorem Hb{p:Prop}(h:p:=by
 by_cases ac:op=16
 .refine .inl ⟨by simpa using ac,?_,by simp;omega⟩;have:v1≠0:=λag=>br ⟨ac,ag⟩;simpa using this
 .by_cases ax:op=17
  .refine .inr (.inl ⟨by simpa using ac,by simpa using ax,?_⟩);by_cases bG:v1=0
   .simpa using bG
   .exact absurd ⟨ax,bG⟩ bn
  .exact .inr (.inr ⟨by simpa using ac,by simpa using ax⟩)
 ):p:=h
theorem Hc{p:Prop}(h:p:=by
 rintro a8 bh ⟨rfl,ar⟩;have aJ:=ae (F.trans ar);have aW:=ae (aO.trans ar);have b4:=ae (aw.aj ar);have bW:=ae (bW.aj ar);clear a0 ak af F aO aw;obtain⟨a0,ak,af⟩:=bW.two;clear a0 ak af;obtain⟨a0,ak,af⟩:=bW.two;go_wp2;go_roundw
 case rel=>exact⟨j+1,ad,by go_num,aJ.o,aW.o,b4.o⟩
 case measure=>exact aE
 ):p:=h
theorem DJ{p:Prop}(h:p:=by
 constructor
 .rintro⟨y,rfl,h⟩;rw[bf] at h;obtain⟨cm,rfl,h⟩:=h;rw[aQ] at h;subst h;rfl
 .rintro rfl;exact⟨_,rfl,bf.2 ⟨_,rfl,aQ.2 rfl⟩⟩
 ):p:=h
theorem tT{p:Prop}(h:p:=by
 go_enter func54,ntmps54;go_wp2_with(fail);go_ret;exact⟨rfl,Mg.alloc _⟩
 ):p:=h
theorem xJ{p:Prop}(h:p:=by
 generalize (Value.agg #[.int .i64 x.a2,.int .i64 x.numOf,.string x.bt,.slice cr cd cC])=Y;intro aP;exact key a2 Y _ aP
 ):p:=h
theorem xK{p:Prop}(h:p:=by
 go_wp2;go_roundw
 case rel=>exact⟨k+1,ad,by go_num,by rw[<-S.o],bu.o⟩
 case measure=>exact aE
 ):p:=h
theorem Hd{p:Prop}(h:p:=by
 rintro e aD ⟨rfl,he⟩;have a7:=ae (bu.trans he);have y:=ae (m.trans he);have b9:=ae (G.aj he);clear he a0 ak af bu m G;obtain⟨a0,ak,af⟩:=b9.two;go_wp2;refine wp_loop_rounds 1 ?_;rw[rounds_succ];go_wp2;go_roundw
 case rel=>exact⟨k+1,ad,by go_num,a7.o⟩
 case measure=>exact aE
 ):p:=h
theorem xL{p:Prop}(h:p:=by
 rcases O with O|O
 .rw[O] at hc;exact a4.2.2 hc
 .rw[O] at hc;injection hc with hc;have:=a4.2.1;omega
 ):p:=h
theorem rF{p:Prop}(h:p:=by
 exact gQ.mk' R.o (by rw[b2.o];exact az) O bT.o
 ):p:=h
theorem xM{p:Prop}(h:p:=by
 refine fin _ λs hs=>?_;rcases LS.1 hs with rfl|hs
 .exact⟨c,c⟩
 .exact aq.2 s hs
 ):p:=h
theorem He{p:Prop}(h:p:=by
 exact B0
 ):p:=h
theorem DK{p:Prop}(h:p:=by
 obtain⟨A,n,c,ac,ax,a1⟩:=h.ex;exact⟨LC h.lt O.size,A,n,c,ac,(O.cell h.lt (λh=>h)).trans ax,a1.on (Fr.ext O)⟩
 ):p:=h
theorem DL{p:Prop}(h:p:=by
 simp only[D.aO,D.rep];constructor
 .rintro⟨x,y,rfl,rfl,h⟩;exact⟨y,rfl,h⟩
 .rintro⟨y,rfl,h⟩;exact⟨_,y,rfl,rfl,h⟩
 ):p:=h
theorem tU{p:Prop}(h:p:=by
 go_wp2;go_ret;exact⟨ret_bool (by rw[a2.o]),O⟩
 ):p:=h
theorem xN{p:Prop}(h:p:=by
 go_wp2;go_roundw
 case rel=>exact⟨k+1,ad,by go_num,ba.o⟩
 case measure=>exact aE
 ):p:=h
theorem Hf{p:Prop}(h:p:=by
 unfold eO at h;rw[bJ,fB] at h;obtain⟨y,rfl,h⟩:=h;obtain⟨x,cm,rfl,hx,bb⟩:=dG.1 h;obtain⟨A,n,c,rfl,hc,hs⟩:=jG.1 hx;rw[D.bw] at bb;obtain⟨A2,c2,rfl⟩:=fv.1 bb;exact⟨_,A,n,c,_,_,rfl,hx⟩
 ):p:=h
theorem xO{p:Prop}(h:p:=by
 clear bn b1;go_wp2;go_ret;refine⟨ret_bool ?_,O⟩;rw[a2.o,i.o,a5.o];simp
 ):p:=h
theorem Hg{p:Prop}(h:p:=by
 rcases h with⟨m,hm,_,ac,ax⟩|⟨_,hp⟩
 .by_cases aG:0<m.size
  .obtain⟨l,a,hs⟩:=ac aG;rw[al] at a;injection a with a;subst a;exact hs
  .rw[ax aG] at al;cases al
 .rw[hp] at al;cases al
 ):p:=h
theorem DM{p:Prop}(h:p:=by
 rcases al with⟨ac,_⟩|⟨ac,_⟩|⟨_,_,ac⟩|⟨ac,_⟩|⟨ac,_⟩|⟨ac,_⟩<;>first|exact ac|omega
 ):p:=h
theorem Hh{p:Prop}(h:p:=by
 obtain⟨cn,rfl,ac⟩:=bf.1 h;obtain⟨cm,rfl,ax⟩:=bf.1 ac;obtain⟨bv,rfl,a1⟩:=bf.1 ax;obtain⟨A,n,c,cJ,rfl,hc,hs,aU⟩:=aL.1 a1;rw[aQ] at aU;subst aU;exact⟨A,n,c,rfl,hc,hs⟩
 ):p:=h
theorem Hi{p:Prop}(h:p:=by
 unfold cz;rw[bJ,ct];constructor
 .rintro⟨y,rfl,h⟩;rw[fB] at h;obtain⟨cm,rfl,h⟩:=h;rw[aQ] at h;subst h;rfl
 .rintro rfl;exact⟨_,rfl,fB.2 ⟨_,rfl,aQ.2 rfl⟩⟩
 ):p:=h
theorem rG{p:Prop}(h:p:=by
 go_wp2;go_ret;exact⟨ret_int (by rw[a2.o]),O⟩
 ):p:=h
theorem Hj{p:Prop}(h:p:=by
 have a2:=rE r1 cH.1 cH.2 gZ g0 f0 rg ro;clear r1 gZ g0 f0 rg ro an bH b0 cU cH b6 m I bR c0 cy bJ;go_wp2;go_roundw
 case rel=>exact⟨k+1,A2,c2,ad,by go_num,a2.o⟩
 case measure=>exact aE
 ):p:=h
theorem Hk{p:Prop}(h:p:=by
 simp only[LY,Atom.bytes,LR,L8];unfold fI;simp only[g,cR,H,Me,if_false,k];rw[if_neg ad,if_neg ad];exact pZ (aq _) (by simp) (by simp)
 ):p:=h
theorem DN{p:Prop}(h:p:=by
 have hle:=(Fr.aF ar).size;clear hV ar;generalize aP.heap.size=de at *;exact key de V ⟨bo,aS,hle⟩
 ):p:=h
theorem Hl{p:Prop}(h:p:=by
 have:b=.sg [41]:=by
  simp[eh] at O;exact O.symm
 subst this;refine⟨λh=>by simp[Atom.kB] at h,λs hs _ c hc=>?_⟩;injection hs with hs;subst hs;simp[Atom.head] at hc;subst hc;decide
 ):p:=h
theorem Hm{p:Prop}(h:p:=by
 apply List.ext_getElem?
 intro j;rw[List.getElem?_map,List.getElem?_map];by_cases bi:i=j
 .subst bi;rw[List.getElem?_set_self (List.getElem?_eq_some_iff.1 J).1,J];rfl
 .rw[List.getElem?_set_ne bi]
 ):p:=h
theorem Hn{p:Prop}(h:p:=by
 have ac:=e1.size;exact⟨λO=>by
  rcases b1 _ O with h|h
  .exact(az _ h).2.1 rfl
  .omega,λO=>by
  rcases b1 _ O with h|h
  .exact(az _ h).2.2 rfl
  .omega⟩
 ):p:=h
theorem Jc{p:Prop}(h:p:=by
 rw[mP];exact(bM.2.2.2.2.1.ak λb O=>J.block b O.2 (nz O.1 a2.2.1.lt)).mono λb O=>⟨by have:=O.1;have:=a2.2.1.lt;omega,by have:=O.2;have:=J.size;omega⟩
 ):p:=h
theorem xP{p:Prop}(h:p:=by
 exact kD.bad a2.o (b2.below.trans (Q.below.mono b2.below.size))
 ):p:=h
theorem xQ{p:Prop}(h:p:=by
 have ax:=bH.2;simp only[LI,L4,ax];exact ac
 ):p:=h
theorem Jd{p:Prop}(h:p:=by
 rw[mP];exact(bM.2.2.2.2.1.ak λb O=>J.block b O.2 (nz O.1 a2.2.1.lt)).mono λb O=>⟨by have:=O.1;omega,by have:=O.2;have:=J.size;omega⟩
 ):p:=h
theorem xR{p:Prop}(h:p:=by
 rw[aQ] at a1;subst a1;exact⟨A,n,c,rfl,hc,hs⟩
 ):p:=h
theorem Ho{p:Prop}(h:p:=by
 have aR:=ah bC ct;clear hX bC ct o1 aa;go_wp2_with(fail);go_roundw
 case rel=>exact⟨k+1,by go_num,ad,aR.1,aR.2⟩
 case measure=>exact aE
 ):p:=h
theorem xS{p:Prop}(h:p:=by
 generalize wr.heap.size=cD;intro ag;exact key a2 cD j _ ag
 ):p:=h
theorem zS{p:Prop}(h:p:=by
 refine⟨_,_,_,_,_,rfl,?_,bx.drew⟩;rw[bn.o];refine dZ.2 ⟨none,0,0,rfl,Lz _,?_⟩;simp only[al];exact Sl.bT _
 ):p:=h
theorem vG{p:Prop}(h:p:=by
 go_wp2;go_ret;exact⟨ret_int (by rw[a2.o];rfl),Mg.alloc _⟩
 ):p:=h
theorem vH{p:Prop}(h:p:=by
 exact⟨_,rfl,aL.2 ⟨A,n,c,[],rfl,hc,hs,aQ.2 rfl⟩⟩
 ):p:=h
theorem zT{p:Prop}(h:p:=by
 go_wp2_with(fail);go_roundw
 case rel=>exact⟨k+1,by go_num,ad,by rw[<-bM.o];exact bH.1,bH.2⟩
 case measure=>exact aE
 ):p:=h
theorem zU{p:Prop}(h:p:=by
 obtain⟨len,_,al⟩:=n.ok;rcases al with⟨ac,_⟩|⟨ac,_⟩|⟨ac,_⟩|⟨ac,_⟩|⟨ac,_⟩|⟨ac,_⟩<;>omega
 ):p:=h
theorem zV{p:Prop}(h:p:=by
 intro hm;rcases hm with hm|hm|hm
 .have:=HA.lt;omega
 .have:=(HA.rows.one.lt hm).2;omega
 .have:=(HA.rows.two.lt hm).2;omega
 ):p:=h
theorem zW{p:Prop}(h:p:=by
 simp only[LL] at O ⊢;rcases O with O|O|O
 .exact .inl O
 .exact .inr (.inl O)
 .exact .inr (.inr (.inr O))
 ):p:=h
theorem sE{p:Prop}(h:p:=by
 have:=aw.2;simpa[rp,rB] using this
 ):p:=h
theorem zX{p:Prop}(h:p:=by
 rw[<-hX];exact⟨N.below.setCell (p:=⟨wr.heap.size,0,none⟩) (Lz _) _,N.blk.aJ 0 _,by simpa using N.lt⟩
 ):p:=h
theorem sF{p:Prop}(h:p:=by
 go_wp2;go_ret;exact⟨ret_bool a2.symm,a7.o⟩
 ):p:=h
theorem HS{p:Prop}(h:p:=by
 have bW:(hd.owner == 0)=true:=by simpa using bn
 clear bn;go_wp2;go_ret;exact⟨ret_bool (by rw[a2.o,a5.o];rfl),O⟩
 ):p:=h
theorem zY{p:Prop}(h:p:=by
 unfold gj;rw[bJ];exact ct.2 ⟨_,rfl,aL.2 ⟨none,0,0,[],rfl,Lz _,Sl.bT _,aQ.2 rfl⟩⟩
 ):p:=h
theorem zZ{p:Prop}(h:p:=by
 clear ag;conv=>arg 2;whnf
 go_wp2
 try refine x _ _ ?_
 unfold rl
 iterate 248 apply Exists.intro
 exact⟨a3.o,rfl⟩
 ):p:=h
theorem z0{p:Prop}(h:p:=by
 have bw:L=T:=by rw[<-bH.o];unfold fJ;rw[J];rfl
 exact gQ.mk' R.o (by rw[bw];exact S) di J
 ):p:=h
theorem vI{p:Prop}(h:p:=by
 go_wp2;go_ret;exact⟨ret_int (by rw[bH.o]),Below.refl _ _⟩
 ):p:=h
theorem z1{p:Prop}(h:p:=by
 rw[D.bw] at bb;obtain⟨A2,cY,c2,rfl,_,_⟩:=aX.1 bb;exact⟨_,_,_,_,_,_,_,_,rfl,bb⟩
 ):p:=h
theorem z2{p:Prop}(h:p:=by
 rcases Nat.eq_zero_or_pos n2 with ac|ac
 .exact ac
 .obtain⟨b,o,ax,_⟩:=ht.2 ac;rw[h0] at ax;cases ax
 ):p:=h
theorem vJ{p:Prop}(h:p:=by
 have:=(List.getElem?_eq_some_iff.1 hm).1;simp at this;omega
 ):p:=h
theorem vK{p:Prop}(h:p:=by
 exact gp.mk' rfl ((Below.refl _ _).alloc (Lz _) _)
 ):p:=h
theorem z3{p:Prop}(h:p:=by
 exact Fr.low (M:=λb=>b=S.heap.size+1+1) ((ac.mono λ_ h=>h.elim).trans ay) λk aj=>ad
 ):p:=h
theorem z4{p:Prop}(h:p:=by
 unfold heldBy;rw[f,show (hd.owner == th+1)=true by simpa using aU,decide_eq_true ⟨hm,a1⟩];rfl
 ):p:=h
theorem z5{p:Prop}(h:p:=by
 rcases H with H|H
 .rw[H] at O;exact .inl O
 .rw[H] at O;injection O with O;right;omega
 ):p:=h
theorem z6{p:Prop}(h:p:=by
 generalize (Value.agg (ar.val S))=Y;generalize (Value.slice A2 N c2)=z;intro F;exact key cD z Y _ F
 ):p:=h
theorem z7{p:Prop}(h:p:=by
 obtain⟨cm,rfl,h⟩:=h;rw[bf] at h;obtain⟨bv,rfl,h⟩:=h;rw[aQ] at h;subst h;rfl
 ):p:=h
theorem HT{p:Prop}(h:p:=by
 rcases hm with hm|hm
 .rcases hp with hp|hp
  .omega
  .have:=(bm b hp).1;omega
 .omega
 ):p:=h
theorem z8{p:Prop}(h:p:=by
 cases j with
 | zero=>simp[oQ] at bi;exact⟨rfl,bi.symm⟩
 | succ j=>simp[oQ] at bi
 ):p:=h
theorem z9{p:Prop}(h:p:=by
 exact(lN.cons (.cons (.cons (.app (.cons (.nl (l:=[]) λa h=>by simp at h)))))).2 a br
 ):p:=h
theorem vL{p:Prop}(h:p:=by
 go_wp2;go_ret;exact⟨rfl,Mg.alloc _⟩
 ):p:=h
theorem Aa{p:Prop}(h:p:=by
 simp only[VE.a2,VE.numOf,VE.bt] at *;go_wp2;go_ret;exact⟨ret_str ca.o,bj.o⟩
 ):p:=h
theorem Ab{p:Prop}(h:p:=by
 by_cases ag:0<=bD X e/\0<=th
 .exact ag
 .rw[qj ag] at J;cases J
 ):p:=h
theorem Ac{p:Prop}(h:p:=by
 rintro e ab ⟨rfl,be,hF⟩;exact⟨none,0,0,rfl,Lz _,be,hF,Sl.bT _⟩
 ):p:=h
theorem Ad{p:Prop}(h:p:=by
 by_cases z:j<k
 .exact aT.o j z
 .obtain rfl:j=k:=ad;exact aR.o
 ):p:=h
theorem Ae{p:Prop}(h:p:=by
 have:=bh.2.2.1
 cases d with
 | zero=>exact this.elim
 | succ cS=>exact⟨cS,rfl⟩
 ):p:=h
theorem Af{p:Prop}(h:p:=by
 conv=>lhs;rw[<-df b8]
 simp only[ByteArray.append_assoc,ag];simp
 ):p:=h
theorem Ag{p:Prop}(h:p:=by
 exact xc (q:=⟨bE,bK,bw,TA,tn,tc,HA,hn,hc⟩) cc.2.2 H.o bh.o
 ):p:=h
theorem Ah{p:Prop}(h:p:=by
 clear hx cK J;go_wp2_with(fail);go_ret;rw[bT.o];exact hR.nil (Fr.of a2.2.1)
 ):p:=h
theorem Ai{p:Prop}(h:p:=by
 unfold heldBy;rw[f,show (hd.owner == th+1)=false by simpa using aU];simp
 ):p:=h
theorem Aj{p:Prop}(h:p:=by
 go_wp2;go_ret;exact⟨none,0,rfl,World.ownsRow_nil _ _ _ _,Below.refl _ _⟩
 ):p:=h
theorem Ak{p:Prop}(h:p:=by
 unfold p1;rw[List.range_succ,LJ,List.filter_append];simp[h]
 ):p:=h
theorem Al{p:Prop}(h:p:=by
 simp only[al.eT,az.decl,GJ,L6];cases d<;>exact Iff.rfl
 ):p:=h
theorem Am{p:Prop}(h:p:=by
 intro x hx;obtain⟨j,bi⟩:=List.getElem?_of_mem hx;simpa using h j x bi
 ):p:=h
theorem An{p:Prop}(h:p:=by
 exact lz _ _ _ _ _ (by rw[mO];omega) (by rw[mO];omega)
 ):p:=h
theorem Ao{p:Prop}(h:p:=by
 clear hm;go_wp2;go_ret;exact⟨ret_int (by rw[a2.o];rfl),aF.alloc _⟩
 ):p:=h
theorem HU{p:Prop}(h:p:=by
 unfold free;rw[decide_eq_true ⟨hm,h0⟩,f,P,a6,Bool.true_and]
 ):p:=h
theorem Ap{p:Prop}(h:p:=by
 rw[rO,<-List.append_assoc];exact LL.2 (.inl this)
 ):p:=h
theorem Aq{p:Prop}(h:p:=by
 simp only[de,count_nil,bo,cD,eE];omega
 ):p:=h
theorem Ar{p:Prop}(h:p:=by
 rw[aU a2.2.2.2.1,LJ,LJ];exact ca.1
 ):p:=h
theorem sG{p:Prop}(h:p:=by
 obtain⟨a8,am,aJ⟩:=(ag.2.2.1.aj bo).two;clear hV bo b5 dc cT;have dx:w.heap.size+2<V.heap.size:=ad;go_wp2_with(fail);refine(Gj P s t fs f ⟨bE,bK,bw,TA,tn,tc,HA,hn,hc⟩ V (cc.2.2.Hw H.o (ag.1.trans bP.o)) (λb O=>LC (H.o b O) (ag.1.trans bP.o).size) i.sm c4 bS.2.1).mono ?_;rintro e b4 ⟨⟨bV,cx,L,bA,m,S,bH,bJ,aX⟩,O,lb,lc,hx,cG,ds,cR,dT,aE,F1,F2,bc,rfl,a3,dH⟩;have bY:=ah a3 dH;have cF:=a3.size;clear a3 dH a8 am aJ;dsimp only[SV.val];go_upto_region 5 with(fail);generalize hU:World.alloc _ _=U;have cl:=aZ hU;have cV:=aN hU;have cg:=bY.2 U b4.heap.size cl cV (Lz _);have dF:=cg.mW;have cu:=cg.gl;have cw:=cg.tl;have cm:=cg.hl;simp only at dF cu cw cm;subst dF;obtain⟨bq,k,flb,ab,J,c0,c1,c2,c3,a7⟩:=cg.top;have bB:Ext V U:=bY.1.trans cl;have dR:=(cg.lo lb (by simp)).1;have a5:=cX cg bB cu cw cm;have ct:t<(bJ:Int):=by have:=bS.2.2.2.2;omega
 have dO:((fs.length:Nat):Int)<(lc:Int):=by have:=cg.l.cap;omega
 have dL:fs.length<=lc:=ad;obtain⟨e0,a6,aQ⟩:=cV.two;clear hU cl cV cg bB cu cw cm bY;go_upto_region 8 with(fail);generalize hX:World.setCell _ _ _=X;have cq:RO P V.heap.size X {s with threads:=s.threads.set t.toNat (fs++[next f])} t.toNat fs (next f) b4.heap.size ⟨bV,cx,L,bA,m,S,some ⟨O,0,none⟩,bJ,aX⟩ O lb lc hx cG ds cR dT aE F1 F2 bc:=hX▸a5.1.pc (f.pc+1);have b6:=cJ hX;have di:Ext V X:=Fr.low (M:=λb=>b=lb) (Fr.trans (Fr.mono a5.2.1 λ_ h=>h.elim) b6) λb O=>ad;have ck:=bP.trans di;have aR:=aA cq di ck;have dJ:=di.size;clear hX b6 e0 a6 aQ c0 c1 c2 c3 J flb ab bq k a7;obtain⟨bq,k,flb,ab,J,c0,c1,c2,c3,a7⟩:=cq.top;obtain⟨a0,ak,af⟩:=(ag.2.1.aj ck).two;obtain⟨a8,am,aJ⟩:=(ag.2.2.1.aj ck).two;obtain⟨d0,aK,aO⟩:=(ca.aj di).two;obtain⟨e0,a6,aQ⟩:=cq.o.two;have dN:=(cq.lo b4.heap.size (by simp))
 exact sH
 ):p:=h
theorem sI{p:Prop}(h:p:=by
 have i:=ae h;have bS:=cX bN bv cW vA uz;have du:t<(hn:Int):=ad;have cc:=aA hu hs b2;obtain⟨H,cz⟩:=aH be co;clear h bN cw bv cW vA uz hu hs b2 be co;dsimp only[UV.val,SV.val];go_enter func20,ntmps20;go_upto_region 1 with(fail);generalize bd:World.alloc _ _=W;have aF:=l3 bd;have bU:=kr bd;have bQ:=iC bd;have cB:=ks bd;have ag:=dI aF bU bQ cB (cc.1.on aF) (cc.2.1.on aF);have cS:=aF.size;have dy:=cB.lt;obtain⟨a0,ak,af⟩:=bU.two;obtain⟨a8,am,aJ⟩:=bQ.two;clear bd aF bU bQ cB;go_wp2_with(fail);refine(k1 u s t f cp x W ⟨GA,gn,gc,MA,mn,mc,PA,pn,pc⟩ ⟨bE,bK,bw,TA,tn,tc,HA,hn,hc⟩ ⟨i.sm,i.ht,i.hp,i.hx,i.hF.proc,i.pc.1,i.il,i.kl,ag.2.2.2.2.1,ag.2.2.2.2.2⟩).mono ?_;rintro e aP ⟨⟨eo,en,es,EA,em,ec,QA,qm,qc,dk,j,df,KA,dg,kc⟩,rfl,bG,aL⟩;have cT:=ah bG aL;clear a0 ak af a8 am aJ bG aL;dsimp only[IV.val];go_upto_region 2 with(fail);generalize hV:World.alloc _ _=V;have b5:=aZ hV;have dc:=aN hV;have bo:Ext W V:=cT.2.trans b5;have dj:=bo.size;have cn:=dc.lt;have dK:=cT.2.size;have bP:=ae bo;have dw:=ae (cT.1.on b5);have ca:=ae dc;exact sJ
 ):p:=h
theorem l4{p:Prop}(h:p:=by
 intro p bj B bQ bT ps V T ls N S L aE bc QA b8 qc br aV av a7 bH on bB cu cO bO aS bv wr bl cj ca b5 ns a3 bW cb b7 be cc aH aF b3 Q hQ0 hN K hK;intros
 obtain⟨s,wb,sA,bK,bw,sl,GA,gn,gc,MA,mn,mc,FA,fn,fc,M,F,ar⟩:=p;simp only at cO bl cj ca;obtain⟨a0,ak,af⟩:=bW.1.blk.two;obtain⟨a8,am,aJ⟩:=bW.2.1.two;obtain⟨d0,aK,aO⟩:=bW.2.2.two;conv=>arg 2;whnf
 conv at hK=>enter [a,w,1,2];whnf
 exact l5
 ):p:=h
theorem HV{p:Prop}(h:p:=by
 refine oG ?_
 iterate 4 refine pf ?_
 refine aI rfl (λK hK=>?_);go_simp;refine(jW ⟨s,wb,sA,bK,bw,sl,GA,gn,gc,MA,mn,mc,FA,fn,fc,M,F,ar⟩ L aV av bi a7 wr.drew ((bW.1.aj bl Mg.drew).wr a3.1) ((Sl.cS a3.2.2.2.2.1 (bW.1.aj bl Mg.drew).fr).mono λb O=>⟨O.1,λh=>O.2 (.inl h)⟩) ad).mono ?_;rintro e aP ⟨x,cr,cd,cC,rfl,hx,aL,ce,h,he⟩;simp only at h he;have ai:Fr (λb=>b=s) wr aP:=Fr.aF he;have ap:=bW.2.2.on ai ad;have a2:=hj (bW.1.next bl h ai) ap hx aL ce ai.size (bW.2.1.on ai ab);refine dP hK (he) ?_;clear hK K;clear ap hx aL ce h he ai a0 ak af a8 am aJ d0 aK aO;refine au rfl (λK hK=>?_);go_simp
 first
  | rw[j.2,show IntKind.i64.wrap ((i:Nat):Int)=((i:Nat):Int) from IntWalk.i64_in _ ad]
  | rw[j.2]
 refine(cc.2.2 L ad i 3 aV (T++decls ls) av bi a7 bc ps QA b8 qc br aP ad ad (a2.1.wr a3.1) (Sl.cS a3.2.2.2.2.1 a2.1.fr) ad (λk aj=>cc.2.1 k ad) (Sl.cS a3.2.2.1 a2.1.fr) bv).mono ?_;rintro e aW ⟨Z,a9,m,aq,bN,rfl,ag,cN,cg,aG,I⟩;have u:¬(S.heap.size=s\/S.heap.size=wb):=ad;have l:=a2.2.1.on I u;have aM:=a2.2.2.2.2.2.2.on I (λh=>by rcases h with h|h<;>(simp only at h;omega));have dp:a9<=L:=ag.le;have bM:=hj (a2.1.Iq aG I) l ag cN cg I aM;clear ag cN cg aG I aM;obtain⟨d0,aK,aO⟩:=l.two;clear l;refine dU hK ?_;clear hK K;refine au rfl (λK hK=>?_);go_simp;refine dU hK ?_;clear hK K;refine pf ?_;refine au rfl (λK hK=>?_);go_simp;refine dU hK ?_;clear hK K;refine pf ?_;refine au rfl (λK hK=>?_);go_simp;refine dU hK ?_;clear hK K;refine aC ?_;generalize hX:World.setCell _ _ _=X;have J:Fr (λb=>b=S.heap.size) aW X:=hX▸((((((Fr.refl (λb=>b=S.heap.size) aW).setCell (.inl rfl) _).setCell (.inl rfl) _).setCell (.inl rfl) _).setCell (.inl rfl) _).setCell (.inl rfl) _).setCell (.inl rfl) _;exact At
 ):p:=h
theorem vM{p:Prop}(h:p:=by
 have a2:=ah (ag.2.2.2.1.aj bF.2.2) (ag.1.trans bF.2.2);have dh:=bF.2.2.size;obtain⟨bp,aM,aV⟩:=a2.1.two;obtain⟨e0,a6,aQ⟩:=bF.2.1.two;go_wp2_with(fail);generalize hX:World.setCell _ _ _=Z;obtain⟨bt,ba,bf⟩:=bs (w:=w) [.slice bV cx L,.slice bA m S,.slice (some ⟨O,0,none⟩) bJ aX,.int .i64 s.fault] (by rfl) a2.1 a2.2 ad hX;have bh:=ah ba bf;clear hX ba bf bp aM aV e0 a6 aQ;obtain⟨bp,aM,aV⟩:=bt.two;refine Mf (v:=.tuple #[.agg #[.slice bV cx L,.slice bA m S,.slice (some ⟨O,0,none⟩) bJ aX,.int .i64 s.fault],.bool true]) (by simp[results,Tryz.results20,go_sem,bp]) rfl ?_;exact vN
 ):p:=h
theorem Au{p:Prop}(h:p:=by
 rintro e aP ⟨rfl,ar⟩;refine dP hK (ar) ?_;clear hK K;refine bp (v:=?_) rfl (by rfl) (λV=>?_) ?_;rotate_left
 .go_simp;exact er
 try simp only[PU]
 refine bp (v:=?_) rfl (by rfl) (λV=>?_) ?_;rotate_left
 .go_simp;exact er
 try simp only[PU]
 exact Av
 ):p:=h
theorem Aw{p:Prop}(h:p:=by
 have bd:=bW.2.2.lt;have R:∀b,wr.heap.size<=b->¬(b=s\/b=wb):=λb O h=>ad;have dx:S.heap.size<=aP.heap.size:=by have:=a2.2.2.2.2.2.1;omega
 have ba:Sl X (fresh S X) cr cd (x.args.map bk):=(a2.2.2.2.2.1.ak λb O=>(J.block b (nz O.2 bM.2.2.2.2.2.1.size) (by have:=O.1;have:wr.drew.heap.size=wr.heap.size:=rfl;omega)).trans (bM.2.2.2.2.2.1.block b O.2 (R b O.1))).mono λb O=>⟨by have:=O.1;have:wr.drew.heap.size=wr.heap.size:=rfl;omega,by have:=O.2;have:=bM.2.2.2.2.2.1.size;have:=J.size;omega⟩
 have cA:Sl X (fresh S X) m aq (c7 (.eT Z)):=by
  exact Jd
 have a5:Sl X (λb=>S.heap.size<b/\b<X.heap.size) cr cd (x.args.map bk):=(a2.2.2.2.2.1.ak λb O=>(J.block b (nz O.2 bM.2.2.2.2.2.1.size) (by have:=O.1;have:wr.drew.heap.size=wr.heap.size:=rfl;omega)).trans (bM.2.2.2.2.2.1.block b O.2 (R b O.1))).mono λb O=>⟨by have:=O.1;have:wr.drew.heap.size=wr.heap.size:=rfl;omega,by have:=O.2;have:=bM.2.2.2.2.2.1.size;have:=J.size;omega⟩
 have an:Sl X (λb=>S.heap.size<b/\b<X.heap.size) m aq (c7 (.eT Z)):=by
  exact Jc
 have aA:=ah a5 an;clear a5 an;have H:=bM.1.fresh a3.1 J λb O=>ad;have bg:=bM.2.2.2.2.2.2.on J ad;have aR:=cX H bC bg ba cA;clear hX d0 aK aO J bC H bg ba cA;exact Ax
 ):p:=h
theorem vO{p:Prop}(h:p:=by
 go_enter func107,ntmps107;go_upto_region 8 with(fail);generalize bd:World.alloc _ _=W;have aF:=hi bd;have a1:=fx bd;have cb:=eX bd;have a3:Mm (zQ w W g A n c T k deep (sk 0 ⟨#[]⟩ ⟨#[]⟩)):=ae ⟨H.aj aF,aF.mono λ_ h=>h.elim,a1,cb⟩;clear bd aF a1 cb;go_wp2_with(fail);refine(show Calls prog 62 #[.pointer (some ⟨g,0,none⟩),.string ⟨#[118,97,114]⟩] W _ from cG [118,97,114] g A n c T k deep W a3.ps false (by first|exact bS.1|exact fu bS.1 (by decide)) (λh=>by first|omega|cases h)).mono ?_;rintro e aP ⟨rfl,be,hF⟩;have H1:=ae (a3.on cu (show bG aP g A n c T (k) deep from by simpa using be) hF);clear be hF;clear a3;go_wp2_with(fail);exact vP
 ):p:=h
theorem Ay{p:Prop}(h:p:=by
 rintro e aP ⟨⟨eo,en,es,EA,em,ec,QA,qm,qc,dk,j,df,KA,dg,kc⟩,rfl,bG,aL⟩;have cT:=ah bG aL;clear a0 ak af a8 am aJ bG aL;dsimp only[IV.val];go_upto_region 2 with(fail);generalize hV:World.alloc _ _=V;have b5:=aZ hV;have dc:=aN hV;have bo:Ext W V:=cT.2.trans b5;exact Az
 ):p:=h
theorem sK{p:Prop}(h:p:=by
 obtain⟨bN,c4,cw,fs,bv,cr⟩:=h.th;have hs:=b2.ok be;obtain⟨GA,gn,gc,MA,mn,mc,PA,pn,pc⟩:=p;obtain⟨bE,bK,bw,TA,tn,tc,HA,hn,hc⟩:=q;have uz:hn=s.threads.length:=by have:=hs.at_.h.1;simpa using this.symm
 have cW:bK=s.globals.length:=by have:=hs.at_.g.1;simpa using this.symm
 have vA:tn=s.table.length:=by have:=hs.at_.t.1;simpa using this.symm
 have dr:hn<=1000:=by have:=h.sm.h;omega
 have c9:=h.pc;exact sL
 ):p:=h
theorem AA{p:Prop}(h:p:=by
 rintro r aP ⟨rfl,O⟩;by_cases hm:0<=bD X e
 case neg=>
  have a2:=ae (show free X T e th=false from qj ad);have aR:bD X e<0:=ad;clear hm;exact tU
 obtain⟨k,m,hd,rfl,aj,d,f,P,bJ⟩:=hT.at_ hm;rw[P];have a7:k<n2:=by have:=ht.1;omega
 have dQ:m<n:=by have:=h.1;omega
 by_cases h0:0<=th
 case neg=>
  have a2:=ae (show free X T k th=false from qj ad);have j:th<0:=ad;clear h0 d f P;exact tU
 obtain⟨b,o,C,rfl,an,hx,c0,c1⟩:=(ht.fH O).hold a7;obtain rfl:hd=C:=by rw[d] at hx;injection hx
 obtain⟨R,au,mx,rfl,l,g,d0,d1,d2⟩:=(h.fH O).JN dQ;have bt:=hT.bound hd (LF d);have a6:Gk X m=mx.re:=by unfold Gk;rw[LZ,g];rfl
 have b3:free X T k th=(hd.owner == 0 || (hd.owner == th+1 && mx.re)):=by
  exact HU
 have a2:=ae b3;clear b3 hx g d f P hm a6;by_cases bn:hd.owner=0
 .have a5:=ae bn;exact HS
 have bW:(hd.owner == 0)=false:=by simpa using bn
 exact AB
 ):p:=h
theorem AD{p:Prop}(h:p:=by
 refine tw (λb=>b=S.heap.size+1) [14] (.free 0 (.free 1 (.free 2 (.free 6 (.free 7 (.free 8 (.held 9 (.pick [3,10,13] (λi=>bif i == 3 then .held 4 (.free 5 (.pick [10,13] (λi=>bif i == 10 then .free 11 (.free 12 (.pick [13] (λ_=>.pick [14] (λ_=>.stop)))) else .pick [10] (λ_=>.free 11 (.free 12 (.pick [14] (λ_=>.stop))))))) else bif i == 10 then .free 11 (.pick [3,13] (λi=>bif i == 3 then .held 4 (.free 5 (.free 12 (.pick [13] (λ_=>.pick [14] (λ_=>.stop))))) else .pick [3] (λ_=>.held 4 (.free 5 (.free 12 (.pick [14] (λ_=>.stop))))))) else .pick [3,10] (λi=>bif i == 3 then .held 4 (.free 5 (.pick [10] (λ_=>.free 11 (.free 12 (.pick [14] (λ_=>.stop)))))) else .free 11 (.pick [3] (λ_=>.held 4 (.free 5 (.free 12 (.pick [14] (λ_=>.stop)))))))))))))))) ?_
 iterate 6 refine tf ?_
 refine oV ?_;clear a0 ak af;exact AE
 ):p:=h
theorem AF{p:Prop}(h:p:=by
 rintro e b4 ⟨⟨bc,cx,L,a4,m,S,bl,bJ,aX⟩,rfl,b8,a3⟩;have cK:=ae b8;have cC:=(ag.2.2.2.2.1.aj bu.o).aj a3;have a2:=ah cC ((ag.1.trans bu.o).trans a3);clear b8 a3 a8 am aJ d0 aK aO;obtain⟨bp,aM,aV⟩:=cC.two;clear cC;go_wp2_with(fail);generalize hX:World.setCell _ _ _=Z;exact AG
 ):p:=h
theorem eM{p:Prop}(h:p:=by
 refine au rfl (λK hK=>?_);go_simp;refine dU hK ?_;clear hK K;refine aC ?_;exact dd
 ):p:=h
theorem eY{p:Prop}(h:p:=by
 obtain⟨GA,gn,gc,MA,mn,mc,PA,pn,pc⟩:=p;obtain⟨bE,bK,bw,TA,tn,tc,HA,hn,hc⟩:=q;exact eZ
 ):p:=h
theorem AH{p:Prop}(h:p:=by
 go_wp2_with(fail);refine(show Calls prog 106 #[.pointer (some ⟨g,0,none⟩),.string ⟨#[40]⟩] w _ from kd [40] g A n c T k deep w H.o bS.1 ad).mono ?_;rintro e aP ⟨rfl,be,hF⟩;have H1:=ah be hF;clear be hF;go_wp2_with(fail);refine(show Calls prog 62 #[.pointer (some ⟨g,0,none⟩),.string ⟨#[41]⟩] aP _ from cG [41] g A n c T (k+1) deep aP H1.1 false bS.2.1 (λh=>by cases h)).mono ?_;rintro e aW ⟨rfl,be,hF⟩;have bZ:=ah (show bG aW g A n c T (k+1) deep from by simpa using be) (H1.2.trans hF);clear be hF H1;go_wp2_with(fail);generalize hN:r.length=N at *;exact AI
 ):p:=h
theorem pL{p:Prop}(h:p:=by
 obtain⟨I,bS,aD,e,cG,hs⟩:=aX.1 a9;simp only[List.cons.injEq,Value.int.injEq,Value.string.injEq,Value.slice.injEq,and_true,true_and] at e;obtain⟨rfl,rfl,rfl,rfl,rfl,rfl⟩:=e;exact pM
 ):p:=h
theorem AJ{p:Prop}(h:p:=by
 have ag:=bA aF bQ be (cC.1.on aF);have cS:=be.lt;have hl:(c4 u s).length=hn:=by rw[jh];exact cC.2
 have b2:=ah hl (wA cC.1.hS);obtain⟨a0,ak,af⟩:=bQ.two;obtain⟨a8,am,aJ⟩:=be.two;clear bd aF bQ be hl;go_wp2_with(fail);refine(sV u s N W ⟨GA,gn,gc,MA,mn,mc,PA,pn,pc⟩ ⟨bE,bK,bw,TA,tn,tc,HA,hn,hc⟩ ag.2.2.2).mono ?_;rintro e aP ⟨A,c,rfl,_,b0,aL⟩;dsimp only at b0 ⊢;have H1:=ah b0 (ag.1.trans aL);generalize c4 u s=l at *;clear a0 ak af a8 am aJ b0 aL;exact AK
 ):p:=h
theorem AL{p:Prop}(h:p:=by
 have aF:Ext w (w.alloc (.cells #[.bool false,.int .i64 i,.slice (some ⟨b,o,none⟩) 1 pc] 58)):=Mg.alloc _;have d:ao (w.alloc (.cells #[.bool false,.int .i64 i,.slice (some ⟨b,o,none⟩) 1 pc] 58)) w.heap.size 58 #[.bool false,.int .i64 i,.slice (some ⟨b,o,none⟩) 1 pc]:=Mh;obtain⟨ar,F,cZ,hm,T,e0,e1,e2,e3⟩:=h;obtain⟨hr,bs,bS,rfl,cd,aR,f0,f1,f2⟩:=F.J6 cZ;have P:bS=m:=by rw[hm] at aR;injection aR with h;exact h.symm
 subst P;exact AM
 ):p:=h
theorem AN{p:Prop}(h:p:=by
 have bm:=a2.2.2.2.2;have F:=a2.2.2.1.dh I.size λb O hp=>I.block b O λhm=>by
  exact HT
 have Z:bG Y g A n c T (k+1+3*j+2) deep:=P.1.on bJ λb O=>ad;have bF:=ae (And.intro Z (And.intro (Fr.mono (M':=λb=>b=g\/w.heap.size<=b) (Fr.trans (a2.2.1.mono λ_ h=>.inl h) (I.mono λb O=>O)) λb O=>by
  rcases O with O|O
  .exact .inl O
  .exact .inr ad) (And.intro F bD)))
 obtain⟨b1,y,al⟩:=bD.two;exact AO
 ):p:=h
theorem vQ{p:Prop}(h:p:=by
 have d0:=Z 0 _ rfl;have d1:=Z 1 _ rfl;have d2:=Z 2 _ rfl;have d3:=Z 3 _ rfl;have d4:=Z 4 _ rfl;have d5:=Z 5 _ rfl;have d6:=Z 6 _ rfl;have d7:=Z 7 _ rfl;have d8:=Z 8 _ rfl;have d9:=Z 9 _ rfl;have d10:=Z 10 _ rfl;simp only[LM] at d0;exact vR
 ):p:=h
theorem sM{p:Prop}(h:p:=by
 obtain⟨cY,da,c6,rfl,bO,bl⟩:=aX.1 aa;have c0:=Z 0 _ rfl;have c1:=Z 1 _ rfl;have c2:=Z 2 _ rfl;have c3:=Z 3 _ rfl;simp only[LM] at c0;have a4:b<wr.heap.size:=O;exact sN
 ):p:=h
theorem gr{p:Prop}(h:p:=by
 refine aq ?_;refine bN rfl (λK hK=>?_) rfl;go_simp;refine dU hK ?_;clear hK K;exact fO
 ):p:=h
theorem AP{p:Prop}(h:p:=by
 go_upto_region 1 with(fail);generalize bd:World.alloc _ _=W;have aF:=l3 bd;have bQ:=kr bd;have be:=iC bd;have a9:=ks bd;have ag:=hj aF bQ be a9 (hu.on aF) (hs.on aF) (D.on bv (Fr.ext aF));have r:=hT.on aF;obtain⟨a0,ak,af⟩:=bQ.two;obtain⟨a8,am,aJ⟩:=be.two;obtain⟨d0,aK,aO⟩:=a9.two;have Q:=ae r;clear bd aF bQ be a9 r hT hu hs bv b7 hS hU ht hp hx hF x o;go_wp2_with(fail);exact AQ
 ):p:=h
theorem AR{p:Prop}(h:p:=by
 clear hX d0 aK aO HA;go_wp2_with(fail);refine(show Calls prog 106 #[.pointer (some ⟨g,0,none⟩),.string ⟨#[59]⟩] X _ from kd [59] g A n c T (k+1+1) deep X aR.ps bS.2.2.2.2 ad).mono ?_;rintro e cg ⟨rfl,be,hF⟩;have bh:=ae (aR.on cu be hF);clear be hF aR;obtain⟨d0,aK,aO⟩:=bh.s.two;obtain⟨bp,aM,aV⟩:=bh.r.two;simp only[sk] at d0;go_wp2_with(fail);generalize hX:World.setCell _ _ _=V;exact AS
 ):p:=h
theorem AT{p:Prop}(h:p:=by
 clear aG;have dm:=cd.size;go_wp2_with(fail);refine(py P s ⟨bE,bK,bw,TA,tn,tc,HA,hn,hc⟩ z cI (cc.2.2.Hw H.o (ag.1.trans cd.o)) (λb O=>LC (H.o b O) (ag.1.trans cd.o).size)).mono ?_;rintro e cA ⟨⟨dC,bn,bI,dl,bm,bl,bW,cH,cf⟩,rfl,b8,b7⟩;have f2:=b7.size;have cK:=ae b8;have a2:=ah (ag.2.2.2.1.aj (cd.trans b7)) ((ag.1.trans cd.o).trans b7);exact AU
 ):p:=h
theorem AV{p:Prop}(h:p:=by
 obtain⟨n,nm,b,o,c,bU,Z,bm,E,b1,cn,cm,bv,T,O,hx,bb,e0,e1,e2,e3,bH,cq,cu,e7⟩:=h.rep;injection T with h0 T;injection T with ac T;injection T with ax T;injection T with a1 T;subst h0 ac ax a1;clear T;have co:=h.ok.1;have az:lZ w G L ng nl g l x [bU,Z,bm,E]:=⟨h.gs,h.ls,h.ok.2.1,hx⟩
 have j:lZ w G L ng nl g l y [b1,cn,cm,bv]:=⟨h.gs,h.ls,h.ok.2.2,bb⟩
 exact AW
 ):p:=h
theorem vS{p:Prop}(h:p:=by
 have aY:=h.g;have hm:=h.m;have J:=h.f;have dq:p.globals.length=gn:=by rw[<-aY.1,LG]
 have lm:p.af.length=mn:=by rw[<-hm.1,LG]
 have lf:p.funcs.length=fn:=by rw[<-J.1,LG]
 exact vT
 ):p:=h
theorem HW{p:Prop}(h:p:=by
 generalize cq:World.setCell _ _ _=Y;obtain⟨bD,bx,bJ⟩:=ef (M:=λb=>b=s) [.int .i64 x.a2,.int .i64 x.numOf,.string x.bt,.slice cr cd cC] (by rfl) bH.o bZ.2 (Lz _) cq;obtain⟨bp,aM,aV⟩:=bD.two;exact AX
 ):p:=h
theorem AY{p:Prop}(h:p:=by
 refine(show Calls prog 62 #[.pointer (some ⟨g,0,none⟩),.string ⟨#[103,111]⟩] aP _ from cG [103,111] g A n c T k deep aP H1.ps false (by first|exact bS.1|exact fu bS.1 (by decide)) (λh=>by first|omega|cases h)).mono ?_;rintro e aW ⟨rfl,be,hF⟩;have bZ:=ae (H1.on cu (show bG aW g A n c T (k) deep from by simpa using be) hF);clear be hF;clear H1;go_wp2_with(fail);exact AZ
 ):p:=h
theorem A0{p:Prop}(h:p:=by
 rintro e aP ⟨rfl,be,hF⟩;have H1:=aA be (Fr.trans (ag.2.1.mono λ_ h=>h.elim) hF) (ag.2.2.on hF ad);have aG:w.heap.size<aP.heap.size:=H1.2.2.lt;clear be hF;go_upto_region 2 with(fail);generalize hX:World.alloc _ _=X;have aF:=aZ hX;have cB:=aN hX;have aR:=bA (H1.1.aj aF) (H1.2.1.trans (aF.mono λ_ h=>h.elim)) (H1.2.2.aj aF) cB;clear hX aF cB H1 ag;go_wp2_with(fail);exact A1
 ):p:=h
theorem A3{p:Prop}(h:p:=by
 have bj:=ae (show ev g l (.bin op x y)=if (ev g l x).2≠0 then (0,(ev g l x).2) else if op=16/\(ev g l x).1=0 then (0,0) else if op=17/\(ev g l x).1≠0 then (1,0) else if (ev g l y).2≠0 then (0,(ev g l y).2) else if op=16\/op=17 then (fy ((ev g l y).1 != 0),0) else arith op (ev g l x).1 (ev g l y).1 from rfl);generalize ev g l x=r1 at *;obtain⟨v1,f1⟩:=r1;exact A4
 ):p:=h
theorem A5{p:Prop}(h:p:=by
 go_upto_region 1 with(fail);generalize bd:World.alloc _ _=W;have aF:=I9 bd;have bQ:=GP bd;have be:=GQ bd;have a9:=GR bd;have cB:=GS bd;have ag:=rE aF bQ be a9 cB (cc.1.on aF) (cc.2.1.on aF) (cc.2.2.on aF);obtain⟨a0,ak,af⟩:=bQ.two;obtain⟨a8,am,aJ⟩:=be.two;obtain⟨d0,aK,aO⟩:=a9.two;clear bd aF bQ be a9 cB cc;go_wp2_with(fail);exact A6
 ):p:=h
theorem A7{p:Prop}(h:p:=by
 obtain⟨j,D,l,rfl,bi,be,hF,hG⟩:=hrel;obtain⟨t,ht⟩:∃t,r[j]?=some t:=⟨_,List.getElem?_eq_getElem ad⟩
 obtain⟨cT,cj,J⟩:=be.blk.two;have ns:=hF.size;have cB:g<wr.heap.size:=be.blk.lt;have bm:∀b,(Value.slice D j l).ownBlock=some b->w.heap.size<=b/\b<wr.heap.size:=λb O=>hG.lt O;have a2:=cX be hF hG ht bm;exact A8
 ):p:=h
theorem A9{p:Prop}(h:p:=by
 refine tw (λ_=>False) [6,11] (.free 0 (.free 1 (.free 2 (.held 3 (.free 4 (.held 5 (.pick [6,10] (λi=>bif i == 6 then .free 7 (.free 8 (.free 9 (.pick [10] (λ_=>.pick [11] (λ_=>.free 12 (.stop)))))) else .pick [6] (λ_=>.free 7 (.free 8 (.free 9 (.pick [11] (λ_=>.free 12 (.stop)))))))))))))) ?_
 iterate 3 refine tf ?_
 refine th ?_;refine tf ?_;refine th ?_;exact Ba
 ):p:=h
theorem Bb{p:Prop}(h:p:=by
 have k:=λaG=>D3 (s:=s) (nl:=cp.locals) (nk:=f.ax.length) aR.1 aR.2.2.1 (Int.le_refl _) aR.2.2.2.2.2 j aG;have aq:=yT (u:=u) (s:=s) (f:=f) j;have m:=p5 (u:=u) (s:=s) (f:=f) j;generalize cW u s f pl=R at *;obtain⟨v,z⟩:=R;simp only at k aq m;have bM:=aA k aq m;exact Bc
 ):p:=h
theorem Bd{p:Prop}(h:p:=by
 go_upto_region 1 with(fail);generalize bd:World.alloc _ _=W;have aF:=aZ bd;have aS:ao W w.heap.size 56 #[.int .i64 0,.int .i64 0,.string ⟨#[]⟩,.slice none 0 0]:=bd▸ao.gA _ _ _ rfl;have ag:=bA (H.1.aj aF) (H.2.aj aF) (aF.mono (M':=λb=>b=s) λ_ h=>h.elim) aS;obtain⟨a0,ak,af⟩:=ag.1.blk.two;clear bd aF aS H;exact Be
 ):p:=h
theorem Bf{p:Prop}(h:p:=by
 have ct:=ht.1;have cH:n2<=5000:=by have:=dt hX;have:=hT.len;omega
 have aI:=fj X T e th;have hlen:(n2:Int)=elems X:=by rw[<-ff,<-hT.len,ct]
 generalize aS:cY X T e th=L at *;obtain⟨bH,ca⟩:=aH aS hlen;clear aS hlen;rw[ct] at aI;have R:=ae aI;clear aI;exact Bg
 ):p:=h
theorem pN{p:Prop}(h:p:=by
 try refine hN _ _ ?_
 unfold l1;refine⟨av,bi,a7,bH,on,bB,?_⟩
 iterate 240 apply Exists.intro
 refine⟨?_,rfl⟩;exact pO
 ):p:=h
theorem Bh{p:Prop}(h:p:=by
 try simp only[PU]
 refine dv rfl (by rfl) ?_
 try simp only[PU]
 refine dv rfl (by rfl) ?_
 try simp only[PU]
 refine dv rfl (by rfl) ?_
 try simp only[PU]
 refine iw rfl (by rfl) ?_
 try simp only[PU]
 refine dv rfl (by rfl) ?_
 try simp only[PU]
 refine iw rfl (by rfl) ?_
 try simp only[PU]
 exact Bi
 ):p:=h
theorem Bj{p:Prop}(h:p:=by
 generalize hV:World.alloc _ _=V;have T:=aZ hV;have bu:=ae (bj.trans T);have G:=ae (bH.aj T);have hC:=aN hV;have bW:=ae hC;have gS:=ae (cl.on (Fr.ext T));have dk:=ae (bt.on (Fr.ext T));clear hV a0 ak af c0 c1 c2 a4 bj bH T cl bt;obtain⟨a0,ak,af⟩:=hC.two;clear hC;exact Bk
 ):p:=h
theorem Bl{p:Prop}(h:p:=by
 obtain⟨len,hlen,al⟩:=h.ok;have hx:(∃e,x.expr=some e/\gw (br u) cp.locals e)/\0<=x.target/\(x.op=1->x.du=true->x.target<u.globals.length)/\(x.op=1->x.du=false->x.target<f.ints.length):=by
  exact Jb
 obtain⟨⟨ex,hex,bD⟩,dt,cb,aT⟩:=hx;exact Bm
 ):p:=h
theorem Bn{p:Prop}(h:p:=by
 go_upto_region 1 with(fail);generalize bd:World.alloc _ _=W;have aF:=hi bd;have bQ:=fx bd;have be:=eX bd;have ag:=bA aF bQ be (cC.1.on aF);have cS:=be.lt;obtain⟨a0,ak,af⟩:=bQ.two;obtain⟨a8,am,aJ⟩:=be.two;clear bd aF bQ be;go_wp2_with(fail);clear a0 ak af a8 am aJ;exact Bo
 ):p:=h
theorem nv{p:Prop}(h:p:=by
 go_upto_region 1 with(fail);generalize bd:World.alloc _ _=W;have aF:=hi bd;have aS:=fx bd;have cB:=eX bd;exact nw
 ):p:=h
theorem Bp{p:Prop}(h:p:=by
 obtain⟨n,nm,b,o,c,bU,Z,bm,E,T,O,hx,e0,e1,e2,e3⟩:=h.rep;injection T with h0 T;injection T with ac T;injection T with ax T;injection T with a1 T;subst h0 ac ax a1;clear T;have co:=h.ok.1;have az:lZ w G L ng nl g l x [bU,Z,bm,E]:=⟨h.gs,h.ls,h.ok.2,hx⟩
 exact Bq
 ):p:=h
theorem vU{p:Prop}(h:p:=by
 unfold eO at h;rw[bJ,fB] at h;obtain⟨y,rfl,h⟩:=h;obtain⟨x,cm,rfl,hx,bb⟩:=dG.1 h;unfold gj at hx;rw[bJ,ct] at hx;obtain⟨z,rfl,hx⟩:=hx;exact vV
 ):p:=h
theorem Br{p:Prop}(h:p:=by
 have cS:=bq 0 _ rfl;simp only[LM] at cS;have cv:=bq 1 _ rfl;have bR:=bq 2 _ rfl;have cR:=bq 3 _ rfl;have H:=bq 4 _ rfl;have b0:=bq 5 _ rfl;have cU:=bq 6 _ rfl;have cf:=bq 7 _ rfl;have ci:=bq 8 _ rfl;have ck:=bq 9 _ rfl;have bO:=bq 10 _ rfl;have b9:=bq 11 _ rfl;exact Bs
 ):p:=h
theorem sO{p:Prop}(h:p:=by
 have cP:gn<=16:=by have:=hp.qA;omega
 have cH:mn<=12:=by have:=hp.zh;omega
 have dG:fn<=16:=by have:=hp.F9;omega
 exact sP
 ):p:=h
theorem Bt{p:Prop}(h:p:=by
 obtain⟨hM,J,hG⟩:=h.own hX;obtain⟨GA,gn,gc,MA,mn,mc,FA,fn,fc,aS,cv,bR,cR,H⟩:=h.blk;refine⟨⟨⟨GA,gn,gc,MA,mn,mc,FA,fn,fc,?_,cv,bR,cR.cT hM,H.cT hM⟩,⟨h.base.1,LU h.base.2 hM.fr.size⟩,⟨h.names.1,h.names.2.cT hM⟩,hG⟩,hM⟩;exact Bu
 ):p:=h
theorem Bv{p:Prop}(h:p:=by
 by_cases a1:0<=th
 case neg=>
  have J:heldBy X T k th=false:=j7 ad;have b2:=ae (no J);have bT:=ae J;have l:th<0:=ad;clear a1 no J ct d f P hm;go_wp2
  go_ret2
  exact rF
 have bt:=hT.bound hd (LF d);exact Bw
 ):p:=h
theorem Bx{p:Prop}(h:p:=by
 have ba:=ae (show ev g l (.bin op x y)=if (ev g l y).2≠0 then (0,(ev g l y).2) else if op=16\/op=17 then (fy ((ev g l y).1 != 0),0) else arith op v1 (ev g l y).1 by rw[bj.o];simp only[aa.o,ne_eq,not_true_eq_false,if_false];rw[if_neg br,if_neg bn]);exact By
 ):p:=h
theorem Bz{p:Prop}(h:p:=by
 have aw:(0:Int)<(d:Int):=ad;obtain⟨i,aU⟩:∃i,d=i+1:=⟨d - 1,ad⟩
 have aT:(d:Int) - 1=((i:Nat):Int):=ad;have bq:i<=1:=ad;have j:=ah aU aT;clear aU aT;have cy:¬wb=s:=ad;have ab:¬bj=s:=ad;exact BA
 ):p:=h
theorem BB{p:Prop}(h:p:=by
 have bh:=ae ba;clear hX ba bf bp aM aV a8 am aJ;obtain⟨bp,aM,aV⟩:=bt.two;refine Mf (v:=.tuple #[.agg #[.slice bE bK bw,.slice TA tn tc,.slice HA hn hc,.int .i64 s.fault],.bool false]) (by simp[results,Tryz.results20,go_sem,bp]) rfl ?_;exact BC
 ):p:=h
theorem vW{p:Prop}(h:p:=by
 have a:cG.length=fs.length*4:=by rw[D.hA _ _ h.fr,D.g5 (z:=4) (λd hd=>by obtain⟨x,_,rfl⟩:=L5.1 hd;rfl),LG]
 exact vX
 ):p:=h
theorem BD{p:Prop}(h:p:=by
 obtain⟨O,bn,ch,dc,n,fc,IA,i,ic,bB,l,lc,e,hT⟩:=hs.at_.top b7 ht;simp only at e;subst e;obtain⟨hF,_,_⟩:=hS.top ht;have x:=hF.qq hp;have o:cL (br u) cp.locals f.ax.length pl:=by rw[x];exact hx
 rw[gS ht];exact BE
 ):p:=h
theorem BF{p:Prop}(h:p:=by
 refine eK (λ_=>False) [(0,3),(1,0),(2,3),(3,3),(4,3),(5,3),(6,3),(7,3),(8,3),(9,3),(10,2)] ?_;refine pf ?_;refine ph ?_
 iterate 5 refine pf ?_
 rw[show IntKind.i64.wrap ((fs.length:Nat):Int)=(fs.length:Int) from IntWalk.i64_in _ ad];exact BG
 ):p:=h
theorem BH{p:Prop}(h:p:=by
 have aY:S.grownBy ab (Value.slice A n c).ownBlock:=⟨cR.os,cR.tape,cR.output,by have:=cR.size;simp at this;omega,λk aj bl=>(cR.block k (by simp;omega) bl).trans (Below.heap_alloc S _ k aj)⟩
 obtain⟨I,aD,rfl,hc,_⟩:=bH bR;exact BI
 ):p:=h
theorem vY{p:Prop}(h:p:=by
 refine eu ?_;refine aq ?_;refine bN rfl (λK hK=>?_) rfl;go_simp;generalize hV:World.alloc _ _=V;have aS:=aN hV;have bo:=aZ hV;clear hV;exact vZ
 ):p:=h
theorem BJ{p:Prop}(h:p:=by
 go_upto_region 1 with(fail);generalize bd:World.alloc _ _=W;have aF:=hi bd;have bQ:=fx bd;have be:=eX bd;have ag:=bA aF bQ be (cC.on aF);obtain⟨a0,ak,af⟩:=bQ.two;obtain⟨a8,am,aJ⟩:=be.two;clear bd aF bQ be;exact BL
 ):p:=h
theorem BM{p:Prop}(h:p:=by
 obtain⟨O,bn,ch,dc,n,fc,IA,i,ic,bB,l,lc,e,hT⟩:=hs.at_.top b7 ht;simp only at e;subst e;obtain⟨pb,gW,R,co,cx,br,v,e,dT,gT,c9,aQ,cu,bG,cb⟩:=hu.at_.code hp hx p0 ca;simp only at e;subst e;simp only at gT;exact BN
 ):p:=h
theorem BO{p:Prop}(h:p:=by
 have d0:=(f.cell (p:=⟨b,o,none⟩) O).trans e0;have d1:=(f.cell (p:=⟨b,o+1,none⟩) O).trans e1;have d2:=(f.cell (p:=⟨b,o+2,none⟩) O).trans e2;have d3:=(f.cell (p:=⟨b,o+3,none⟩) O).trans e3;exact BP
 ):p:=h
theorem BQ{p:Prop}(h:p:=by
 go_wp2;refine eK (λ_=>False) [(0,3),(1,3),(2,3),(3,3),(4,0),(8,3),(9,0),(10,3),(11,3),(14,3),(5,1),(6,3),(7,3),(12,2),(13,3),(15,3),(16,3),(17,3)] ?_
 iterate 2 refine pf ?_
 refine bp (v:=?_) rfl (by rfl) (λV=>?_) ?_;rotate_left
 .go_simp;exact er
 try simp only[PU]
 refine pf ?_;refine ph ?_;refine pf ?_;refine ph ?_;refine pf ?_;refine bp (v:=?_) rfl (by rfl) (λV=>?_) ?_;rotate_left
 .go_simp;exact er
 try simp only[PU]
 refine pf ?_;refine aI rfl (λK hK=>?_);go_simp;refine(aR.o _ _ _ _ _ _ _ (D.on bw.o (Fr.ext Mg.drew)) f.o).mono ?_;rintro e aP ⟨rfl,ar⟩;refine dP hK (ar) ?_;clear hK K;refine bp (v:=?_) rfl (by rfl) (λV=>?_) ?_;rotate_left
 .go_simp;exact er
 try simp only[PU]
 refine bp (v:=?_) rfl (by rfl) (λV=>?_) ?_;rotate_left
 .go_simp;exact er
 try simp only[PU]
 refine au rfl (λK hK=>?_);go_simp;rw[q.o];refine((show hO th from aO.th) (t+1) A2 n2 c2 _ U.o (ai.on (Fr.ext (Fr.aF ar))) R.o).mono ?_;rintro e aW ⟨rfl,bL⟩;refine dU hK ?_;clear hK K;refine bp (v:=?_) rfl (by rfl) (λV=>?_) ?_;rotate_left
 .go_simp;exact er
 try simp only[PU]
 refine bp (v:=?_) rfl (by rfl) (λV=>?_) ?_;rotate_left
 .go_simp;exact er
 try simp only[PU]
 refine bp (v:=?_) rfl (by rfl) (λV=>?_) ?_;rotate_left
 .go_simp;exact er
 try simp only[PU]
 refine pf ?_;refine aC ?_;have bu:=ae ((Fr.aF ar).trans bL);obtain⟨v0,aw⟩:=Fr.tG bu.o;clear ar bL;exact xI
 ):p:=h
theorem BR{p:Prop}(h:p:=by
 rintro e aP ⟨rfl,ar⟩;refine dP hK (ar) ?_;clear hK K;refine bp (v:=?_) rfl (by rfl) (λV=>?_) ?_;rotate_left
 .go_simp;exact er
 try simp only[PU]
 refine bp (v:=?_) rfl (by rfl) (λV=>?_) ?_;rotate_left
 .go_simp;exact er
 try simp only[PU]
 exact B4
 ):p:=h
theorem BS{p:Prop}(h:p:=by
 go_wp2_with(fail);generalize hX:World.setCell _ _ _=X;obtain⟨bC,bz,ct⟩:=bs (w:=w) [.int .i64 0,.int .i64 0,.slice none 0 0,.slice none 0 0] (by rfl) bj.2 bj.1 ad hX;have aR:=ae bz;clear hX bz ct a0 ak af bp aM aV cb;exact Ja
 ):p:=h
theorem BU{p:Prop}(h:p:=by
 obtain⟨bp,aM,aV⟩:=bC.two;refine Mf (v:=.tuple #[.agg #[.int .i64 0,.int .i64 0,.slice none 0 0,.slice none 0 0],.bool false]) (by simp[results,Tryz.results55,go_sem,bp]) rfl ?_;exact⟨rfl,aR.o⟩
 ):p:=h
theorem ny{p:Prop}(h:p:=by
 refine dU hK ?_;clear hK K;refine pf ?_;exact eM
 ):p:=h
theorem BV{p:Prop}(h:p:=by
 rw[bT.o];exact ft (B:=V.heap.size) bF.1 bh.2 (λb O=>⟨λhl=>by have:=H.o b hl;omega,ad⟩) (λb O=>by have:=H.o b O;omega) ad bh.1 (by rw[ej bS.2.1])
 ):p:=h
theorem BW{p:Prop}(h:p:=by
 refine eK (λ_=>False) [(0,3),(1,3),(2,3),(3,0),(4,3),(5,0),(6,3),(7,3),(8,2)] ?_
 iterate 3 refine pf ?_
 refine ph ?_;refine pf ?_;refine ph ?_
 iterate 2 refine pf ?_
 exact eM
 ):p:=h
theorem BX{p:Prop}(h:p:=by
 refine eK (λb=>b=s) [(0,3),(1,3),(3,3),(4,0),(5,3),(6,3),(7,3),(9,3),(2,1),(8,2),(10,2),(11,3),(12,2),(13,3),(14,2)] ?_
 iterate 3 refine pf ?_
 exact HV
 ):p:=h
theorem BY{p:Prop}(h:p:=by
 go_wp2_with(fail);refine(aR.o rs cc cU rc W ah.o f.o).mono ?_;rintro e aP ⟨rfl,ar⟩;have bu:=ae ar;clear ar;exact xI
 ):p:=h
theorem BZ{p:Prop}(h:p:=by
 obtain⟨e0,a6,aQ⟩:=aS.two;have bH:=ae aS;clear a0 ak af h he aS hx aL ce;go_wp2_with(fail);exact HW
 ):p:=h
theorem B0{p:Prop}(h:p:=by
 go_wp2;go_roundw
 case rel=>exact⟨k+1,ad,by go_num,a7.o,b9.o⟩
 case measure=>exact aE
 ):p:=h
theorem B1{p:Prop}(h:p:=by
 rintro a2 cD j fg ⟨aw,ai,bV,gP,bi⟩;obtain⟨bU,aX,a4⟩:=bV.two;exact gr
 ):p:=h
theorem B2{p:Prop}(h:p:=by
 have dW:O<cL.heap.size:=ad
 iterate 2 refine pf ?_
 exact eM
 ):p:=h
theorem B3{p:Prop}(h:p:=by
 refine ph ?_;refine bp (v:=?_) rfl (by rfl) (λV=>?_) ?_;rotate_left
 .go_simp;exact er
 try simp only[PU]
 refine pf ?_;refine ph ?_;refine aI rfl (λK hK=>?_);go_simp;refine(aR.o cp n1 c1 _ (Y.on (Fr.ext Mg.drew)) f.o ab.o).mono ?_;exact BR
 ):p:=h
theorem B4{p:Prop}(h:p:=by
 refine pf ?_;refine aC ?_;have bu:=ae (Fr.aF ar);clear ar;exact xI
 ):p:=h
end Go.Proofs.YtflecliffjbleaaGreat
