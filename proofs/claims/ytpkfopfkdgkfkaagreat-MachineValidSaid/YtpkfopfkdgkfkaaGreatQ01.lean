/- Part 1 of the proof. No condition of its own. -/
import Derived.BigQuiet
import Derived.Deep.Cut
import Derived.Deep.DrawnRows
import Derived.Deep.Draws
import Derived.Deep.QuietTactic
import Derived.Deep.RegionHeld3
import Derived.Deep.Slices
import Derived.Handy
import Derived.IntWalk
import Derived.Laws.CopyOwn
import Derived.Laws.IdiomStrings
import Derived.Laws.StructEq
import Derived.Lib.Bytes
import Derived.Lib.SlBytesRow
import Derived.Lib.SmallJoins
import Derived.Maps.AppendAt
import Derived.OpenShut
import Derived.OrdersHeld
import Derived.ProofKit
import Derived.RegionTactic
import Derived.StillTail
import Derived.Test.YtpkfopfkdgkfkaaGreatRows
import Derived.WalkKit
import Derived.WalkLawsBesides
import Derived.WalkSpells
import Derived.Test.YtpkfopfkdgkfkaaGreatQ00
namespace Go.Proofs.YtpkfopfkdgkfkaaGreat
open Go.RowKit Go.Proofs.Tryz
set_option maxRecDepth 1000000
set_option maxHeartbeats 25600000
set_option linter.unusedVariables false
inductive Mr|a
abbrev Mq:=Mr.a
instance:CoeOut World Nat:=⟨λw=>w.heap.size⟩
instance:Coe Int Value:=⟨λx=>.int .i64 x⟩
instance:Coe Nat Value:=⟨λx=>.int .i64 (x:Int)⟩
instance:Coe ByteArray Value:=⟨.string⟩
instance:Coe Bool Value:=⟨.bool⟩
instance:Coe Unit Value:=⟨λ_=>.slice none 0 0⟩
instance:Coe Mr Value:=⟨λ_=>.string ⟨#[]⟩⟩
theorem LK:type_of% @Nat.le_refl:=@Nat.le_refl
theorem LL:type_of% @Nat.lt_of_lt_of_le:=@Nat.lt_of_lt_of_le
theorem LM:type_of% @List.length_append:=@List.length_append
theorem LN:type_of% @List.mem_of_getElem?:=@List.mem_of_getElem?
theorem LO:type_of% @List.length_map:=@List.length_map
theorem LP:type_of% @Int.eq_ofNat_of_zero_le:=@Int.eq_ofNat_of_zero_le
theorem LQ:type_of% @List.map_cons:=@List.map_cons
theorem LR:type_of% @List.map_append:=@List.map_append
theorem LS:type_of% @List.take_of_length_le:=@List.take_of_length_le
theorem LU:type_of% @List.mem_append:=@List.mem_append
theorem LW:type_of% @Nat.add_zero:=@Nat.add_zero
theorem LX:type_of% @List.length_singleton:=@List.length_singleton
theorem LY:type_of% @Bool.and_eq_true:=@Bool.and_eq_true
theorem LZ:type_of% @List.length_cons:=@List.length_cons
theorem L3:type_of% @List.append_assoc:=@List.append_assoc
theorem L4:type_of% @List.cons_append:=@List.cons_append
theorem L5:type_of% @List.mem_cons:=@List.mem_cons
theorem L6:type_of% @Nat.le_trans:=@Nat.le_trans
theorem L8:type_of% @Nat.zero_add:=@Nat.zero_add
theorem Ma:type_of% @List.length_nil:=@List.length_nil
theorem Mb:type_of% @List.flatMap_cons:=@List.flatMap_cons
theorem Mc:type_of% @Int.toNat_natCast:=@Int.toNat_natCast
theorem Md:type_of% @Nat.zero_le:=@Nat.zero_le
theorem Me:type_of% @List.map_nil:=@List.map_nil
theorem Mf:type_of% @List.mem_map:=@List.mem_map
theorem Mg:type_of% @List.append_nil:=@List.append_nil
theorem Mh:type_of% @List.nil_append:=@List.nil_append
theorem Mi:type_of% @List.mem_singleton:=@List.mem_singleton
theorem Mj:type_of% @Option.some.injEq:=@Option.some.injEq
theorem Mk:type_of% @List.drop_eq_nil_of_le:=@List.drop_eq_nil_of_le
theorem Ml:type_of% @decide_eq_true_eq:=@decide_eq_true_eq
theorem Mm:type_of% @Bool.false_eq_true:=@Bool.false_eq_true
theorem Mn:type_of% @bodyPost_ret:=@bodyPost_ret
theorem Mo{M:Nat->Prop}{w:World}:Fr M w w:=Fr.refl _ _
theorem Mp{w:World}{t:TypeId}{cs:Array Value}:au (w.alloc (.cells cs t)) w.heap.size t cs:=au.new _ _ _
theorem ad{p:Prop}(h:p:=by omega):p:=h
theorem ay{p q:Prop}(x:q)(h:q->p:=by intro this;omega):p:=h x
theorem lV{p q r:Prop}(x:q)(y:r)(h:q->r->p:=by intro this this;omega):p:=h x y
theorem aJ{A B:Prop}(a:A)(b:B):Mw A/\Mw B:=⟨ae a,ae b⟩
theorem ef{A B C:Prop}(a:A)(b:B)(c:C):Mw A/\Mw B/\Mw C:=⟨ae a,ae b,ae c⟩
theorem iY{A B C D:Prop}(a:A)(b:B)(c:C)(d:D):Mw A/\Mw B/\Mw C/\Mw D:=⟨ae a,ae b,ae c,ae d⟩
theorem Di{A B C D E:Prop}(a:A)(b:B)(c:C)(d:D)(e:E):Mw A/\Mw B/\Mw C/\Mw D/\Mw E:=⟨ae a,ae b,ae c,ae d,ae e⟩
theorem DE{A B C D E F G:Prop}(a:A)(b:B)(c:C)(d:D)(e:E)(f:F)(g:G):Mw A/\Mw B/\Mw C/\Mw D/\Mw E/\Mw F/\Mw G:=⟨ae a,ae b,ae c,ae d,ae e,ae f,ae g⟩
theorem aH{p:Prop}(h:p:=by simp[intOf];omega):p:=h
theorem ag{A B:Prop}(a:A)(b:B):Mw (A/\B):=ae ⟨a,b⟩
theorem az{A B C:Prop}(a:A)(b:B)(c:C):Mw (A/\B/\C):=ae ⟨a,b,c⟩
theorem bF{A B C D:Prop}(a:A)(b:B)(c:C)(d:D):Mw (A/\B/\C/\D):=ae ⟨a,b,c,d⟩
theorem cL{A B C D E:Prop}(a:A)(b:B)(c:C)(d:D)(e:E):Mw (A/\B/\C/\D/\E):=ae ⟨a,b,c,d,e⟩
theorem dm{A B C D E F:Prop}(a:A)(b:B)(c:C)(d:D)(e:E)(f:F):Mw (A/\B/\C/\D/\E/\F):=ae ⟨a,b,c,d,e,f⟩
theorem gr{A B C D E F G:Prop}(a:A)(b:B)(c:C)(d:D)(e:E)(f:F)(g:G):Mw (A/\B/\C/\D/\E/\F/\G):=ae ⟨a,b,c,d,e,f,g⟩
theorem px{A B C D E F G H:Prop}(a:A)(b:B)(c:C)(d:D)(e:E)(f:F)(g:G)(h:H):Mw (A/\B/\C/\D/\E/\F/\G/\H):=ae ⟨a,b,c,d,e,f,g,h⟩
theorem tI{A B C D E F G H I:Prop}(a:A)(b:B)(c:C)(d:D)(e:E)(f:F)(g:G)(h:H)(i:I):Mw (A/\B/\C/\D/\E/\F/\G/\H/\I):=ae ⟨a,b,c,d,e,f,g,h,i⟩
theorem z9{A B C D E F G H I J:Prop}(a:A)(b:B)(c:C)(d:D)(e:E)(f:F)(g:G)(h:H)(i:I)(j:J):Mw (A/\B/\C/\D/\E/\F/\G/\H/\I/\J):=ae ⟨a,b,c,d,e,f,g,h,i,j⟩
theorem aU{w W:World}{o1:Obj}(h:w.alloc o1=W):Ext w W:=by subst h;exact Mo.alloc _
theorem h9{w W:World}{o1 fm:Obj}(h:(w.alloc o1).alloc fm=W):Ext w W:=by subst h;exact(Mo.alloc _).alloc _
theorem lD{w W:World}{o1 fm o3:Obj}(h:((w.alloc o1).alloc fm).alloc o3=W):Ext w W:=by subst h;exact((Mo.alloc _).alloc _).alloc _
theorem Jm{w W:World}{o1 fm o3 o4:Obj}(h:(((w.alloc o1).alloc fm).alloc o3).alloc o4=W):Ext w W:=by subst h;exact(((Mo.alloc _).alloc _).alloc _).alloc _
theorem aI{w W:World}{t:TypeId}{cs:Array Value}(h:w.alloc (.cells cs t)=W):au W (w.heap.size) t cs:=by subst h;exact Mp
theorem gb{w W:World}{fm:Obj}{t:TypeId}{cs:Array Value}(h:(w.alloc (.cells cs t)).alloc fm=W):au W (w.heap.size) t cs:=by subst h;exact(Mp).alloc _
theorem fG{w W:World}{o1:Obj}{t:TypeId}{cs:Array Value}(h:(w.alloc o1).alloc (.cells cs t)=W):au W (w.heap.size+1) t cs:=by subst h;exact au.gX _ _ _ (by simp)
theorem jx{w W:World}{fm o3:Obj}{t:TypeId}{cs:Array Value}(h:((w.alloc (.cells cs t)).alloc fm).alloc o3=W):au W (w.heap.size) t cs:=by subst h;exact((Mp).alloc _).alloc _
theorem h6{w W:World}{o1 o3:Obj}{t:TypeId}{cs:Array Value}(h:((w.alloc o1).alloc (.cells cs t)).alloc o3=W):au W (w.heap.size+1) t cs:=by subst h;exact(au.gX _ _ _ (by simp)).alloc _
theorem jy{w W:World}{o1 fm:Obj}{t:TypeId}{cs:Array Value}(h:((w.alloc o1).alloc fm).alloc (.cells cs t)=W):au W (w.heap.size+2) t cs:=by subst h;exact au.gX _ _ _ (by simp)
theorem H7{w W:World}{o1 fm:Obj}{t:TypeId}{cs:Array Value}(h:((w.alloc o1).alloc fm).alloc (.cells cs t)=W):au W (w.heap.size+1+1) t cs:=by subst h;exact au.gX _ _ _ (by simp)
theorem G7{w W:World}{fm o3 o4:Obj}{t:TypeId}{cs:Array Value}(h:(((w.alloc (.cells cs t)).alloc fm).alloc o3).alloc o4=W):au W (w.heap.size) t cs:=by subst h;exact(((Mp).alloc _).alloc _).alloc _
theorem G8{w W:World}{o1 o3 o4:Obj}{t:TypeId}{cs:Array Value}(h:(((w.alloc o1).alloc (.cells cs t)).alloc o3).alloc o4=W):au W (w.heap.size+1) t cs:=by subst h;exact((au.gX _ _ _ (by simp)).alloc _).alloc _
theorem G9{w W:World}{o1 fm o4:Obj}{t:TypeId}{cs:Array Value}(h:(((w.alloc o1).alloc fm).alloc (.cells cs t)).alloc o4=W):au W (w.heap.size+2) t cs:=by subst h;exact(au.gX _ _ _ (by simp)).alloc _
theorem Ha{w W:World}{o1 fm o3:Obj}{t:TypeId}{cs:Array Value}(h:(((w.alloc o1).alloc fm).alloc o3).alloc (.cells cs t)=W):au W (w.heap.size+3) t cs:=by subst h;exact au.gX _ _ _ (by simp)
theorem gQ{w W:World}{o1:Obj}(h:(w.alloc o1).drew=W):Ext w W:=by subst h;exact(Mo.alloc _).drew
theorem kE{w W:World}{t:TypeId}{cs:Array Value}(h:(w.alloc (.cells cs t)).drew=W):au W (w.heap.size) t cs:=by subst h;exact(Mp).drew
theorem cp{w X:World}{g o:Nat}{v:Value}(h:w.setCell ⟨g,o,none⟩ v=X):Fr (λb=>b=g) w X:=by subst h;exact(Fr.refl (λb=>b=g) w).setCell (.inl rfl) _
theorem FZ{w X:World}{g o p:Nat}{v u:Value}(h:(w.setCell ⟨g,o,none⟩ v).setCell ⟨g,p,none⟩ u=X):Fr (λb=>b=g) w X:=by subst h;exact((Fr.refl (λb=>b=g) w).setCell (.inl rfl) _).setCell (.inl rfl) _
theorem Hb{p:Prop}(h:p:=by
 have b3:=ae (bw.o cg);clear bw aR;go_wp2_with(fail);refine(fV s bV TA HA bW bD tn tc hn hc aT (ah.2.2.2.2.2.2.1.on a8.o).at_ aN.sm).mono ?_;rintro e b7 ⟨bg,aY,a1,L,a4,S,xs,F1,F2,bL,cd,rfl,cz,bv,a7⟩;have bQ:=az cz bv a7;have cQ:=a7.size;clear cz bv a7 bq am aG d0 aK aM;go_upto_region 13 with(fail);generalize hV:World.alloc _ _=V;have bo:=aU hV;have b8:=aI hV;have hOut:dI aS V s b7 ⟨bg,bW,aY,a1,tn,L,a4,hn,S⟩ xs F1 F2 bL cd:=
  ⟨bQ.1.ai λb O=>bo.block b (bQ.2.1 b O).2 λh=>h,b8,λO=>by have:=(bQ.2.1 _ O).2;omega,λb O=>⟨by have:=(bQ.2.1 b O).1;omega,by have:=(bQ.2.1 b O).2;have:=bo.size;omega⟩,ad⟩
 have r:Ext W V:=(a8.trans bQ.2.2).trans bo;have k:V.ownsRow 0 79 2 (.slice I tn aE) tn (T.flatMap bO):=hr (b2 (b2 aa.1 (Fr.ext bQ.2.2)) (Fr.ext bo)) (Md _);have l:∀b∈br I tn aE,aS.heap.size<=b/\b<aT.heap.size:=λb O=>aa.1.lt b (by simpa using O);have cc:=bF hOut r k l;obtain⟨e0,be,a6⟩:=hOut.o.two;clear hV bo b8 hOut r k l;go_upto_region 14 with(fail);generalize hX:World.setCell _ _ _=X;have bM:dI aS X {s with table:=T} b7.heap.size ⟨bg,bW,aY,I,tn,aE,a4,hn,S⟩ xs F1 (br I tn aE) bL cd:=
  cc.1.I8 cc.2.2.1 aa.2 (λb O=>⟨λhm=>by have:=(bQ.2.1 b hm).1;have:=(cc.2.2.2 b O).2;omega,by have:=(cc.2.2.2 b O).2;omega,(cc.2.2.2 b O).1⟩) hX
 have b4:=cp hX;have a2:Ext W X:=Fr.low (M:=λb=>b=b7.heap.size) (Fr.trans (Fr.mono cc.2.1 λ_ h=>h.elim) b4) λb O=>ad;obtain⟨bU,c1,i2,cT,df,c7,dg,c0,bc,aH,J⟩:=bM.top (fs:=fs) (f:=f) bN.2.2.1 bN.2.1 bN.1 bN.2.2.2.1;have aq:=az aH J a2;clear e0 be a6;obtain⟨e0,be,a6⟩:=bM.o.two;clear hX bM b4 a2 aH J c0 bc;go_wp2_with(fail);refine(aq.1 X Mo).mono ?_;rintro e cS ⟨rfl,bd⟩;have P:=ae (aq.2.1 cS bd);have cj:=ae (aq.2.2.trans bd);clear e0 be a6 bd;have bT:=P.c1;have g2:=P.fz;have cP:=P.lt;have db:=ct.2.2.1;go_upto_region 15 with(fail);generalize hX:World.setCell _ _ _=Y;have bR:sj aS Y {s with table:=T,threads:=s.threads.set t.toNat (fs++[next f])} b7.heap.size ⟨bg,bW,aY,I,tn,aE,a4,hn,S⟩ xs F1 (br I tn aE) bL cd t fs (next f) bU c1 i2 cT df c7 dg:=hX▸P.JY bN.2.2.1 (f.pc+1);have ar:=cp hX;have dH:=P.ge;have cD:Ext W Y:=Fr.low (M:=λb=>b=bU) (Fr.trans (Fr.mono cj.o λ_ h=>h.elim) ar) λb O=>ad;have bC:=az bR.oz (ah.2.2.2.2.1.aj cD) (ah.1.trans cD);obtain⟨bl,aD,aP⟩:=bC.2.1.two;obtain⟨e0,be,a6⟩:=bR.oz.o.two;clear hX bR ar cD bT g2 cP P;go_wp2_with(fail);generalize hX:World.setCell _ _ _=Z;obtain⟨bs,a9,bf⟩:=bA (w:=w) [.slice bg bW aY,.slice I tn aE,.slice a4 hn S,.int .i64 s.fault] (by rfl) bC.2.1 bC.2.2 ad hX;have i:=ag a9 bf;clear hX a9 bf bl aD aP e0 be a6;obtain⟨bl,aD,aP⟩:=bs.two;refine Mn (v:=.tuple #[.agg #[.slice bg bW aY,.slice I tn aE,.slice a4 hn S,.int .i64 s.fault],true]) (by simp[results,Tryz.results52,go_sem,bl]) rfl ?_;rw[b3.o]
 show cX mP w {bt s t (next f) with table:=T} true _ _
 exact g6 (Q:={bt s t (next f) with table:=T}) (q:=⟨bg,bW,aY,I,tn,aE,a4,hn,S⟩) bC.1 i.2 (λb O=>ad) ad i.1 (by rw[et bN.2.2.1])
 ):p:=h
theorem ez{p:Prop}(h:p:=by
 rw[if_neg (by first|omega|(simp only[ByteArray.size_append];omega)|(simp;omega))]
 ):p:=h
theorem Hc{p:Prop}(h:p:=by
 have dB:=bF G i x bX.2.2;clear G i x cK aG aK;have fg:=dB.2.1.size;by_cases dN:j+1<N
 .refine(show Calls prog 88 #[.pointer (some ⟨g,0,none⟩),.string ⟨#[44]⟩] c6 _ from cJ [44] g A n c T (k+1+3*j+2) deep c6 dB.1 true (by rw[bN.2.2.co j ad];exact decide_eq_true ad) (λ_=>ad)).mono ?_;rintro e cV ⟨rfl,bg,f⟩;have dm:=az (show bI cV g A n c T (k+1+3*(j+1)) deep from by rw[show k+1+3*(j+1)=k+1+3*j+2+1 by omega];simpa using bg) (dB.2.1.trans f) (dB.2.2.1.cZ f λb O _=>⟨ad,ad⟩);clear bg f;go_wp2_with(fail);go_roundw
  case rel=>exact⟨j+1,cC,c3,rfl,dN,dm.o⟩
  case measure=>simp[EK];omega
 .refine(show Calls prog 88 #[.pointer (some ⟨g,0,none⟩),.string ⟨#[44]⟩] c6 _ from cJ [44] g A n c T (k+1+3*j+2) deep c6 dB.1 false (by rw[bN.2.2.co j ad];exact decide_eq_false ad) (λh=>by cases h)).mono ?_;rintro e cV ⟨rfl,bg,f⟩;have dm:=az (show bI cV g A n c T (k+1+3*j+2) deep from by simpa using bg) (dB.2.1.trans f) (dB.2.2.1.cZ f λb O _=>⟨ad,ad⟩);clear bg f;go_wp2_with(fail);refine(show Calls prog 129 #[.pointer (some ⟨g,0,none⟩),.string ⟨#[41]⟩] cV _ from kb [41] g A n c T (k+1+3*j+2) deep cV dm.1 (bN.2.2.cl j ad) ad).mono ?_;rintro e gT ⟨rfl,bg,s⟩;have K:=dm.2.2.cZ s λb O _=>⟨ad,ad⟩
  have q:=az (show bI gT g A n c T (k+1+3*N) deep from by rw[show k+1+3*N=k+1+3*j+2+1 by omega];exact bg) (dm.2.1.trans s) K;clear bg s K;go_wp2_with(fail);go_ret;refine⟨cC,j+1,c3,rfl,dB.2.2.2,by rw[hN];exact q.1,q.2.1,?_⟩;have hG:=q.2.2;rw[LS ad] at hG;exact hG.sl (λb an O=>⟨O,an⟩) (λb an O=>⟨O,an⟩)
 ):p:=h
theorem Hd{p:Prop}(h:p:=by
 go_upto_region 31 with(fail);refine eJ (λ_=>False) [(0,3),(1,3),(2,3),(3,3),(4,3),(5,0),(6,0),(7,1),(8,2),(9,3),(10,3),(11,3),(12,2)] ?_
 iterate 5 refine pf ?_
 iterate 2 refine ph ?_
 refine rb ?_;generalize cG:World.drew (World.alloc _ _)=Z;have a9:=gQ cG;have bs:=kE cG;have bh:=hC.next (hC.src.cT a9 λ_ _ h=>h) (a9.mono λ_ h=>h.elim);have bn:=b3.2.2.2.aj a9;have hh:∀b,(Value.slice FA i fc).ownBlock=some b->u<=b/\b<T.heap.size:=λb O=>ct.fs.lt O;have iw:=ct.hD;have cf:Sl Z (lh (λb=>u<=b) Z (.slice FA i fc)) PA pn (ps.map cD):=bn.sl (λb _ h=>h.elim) (λb O aQ=>⟨ad,O,λh=>by have:=(hh b h).2;omega⟩);have iv:T<=Z.heap.size:=by have:=b3.2.1.size;have:=a9.size;omega
 have bk:=bF bh bs cf b3.2.2.2.cap.1;have h4:=ae hh;have ix:=ct.blk.lt;clear cG a9 bs bh bn cf hh a0 ai af f0 dN dQ;refine ax rfl (λK hK=>?_);rw[if_pos (by rfl)];refine fo Ij (.tmp 177) (.tmp 179) (by rfl) bk.1.fs bk.2.1 (GN bk.2.2.2 bk.2.2.1) (by rfl) (by rfl) (by rfl) ad ad ad ?_;intro hx hk gT bl a7 co b1;have a5:=bk.1.blk.on a7 (λO=>by have:=(h4.o _ O).1;omega);have aW:=ag bl a7;clear bl a7 co b1;obtain⟨a0,ai,af⟩:=a5.two;clear a5;refine dX hK ?_;clear hK K
 iterate 3 refine pf ?_
 refine ax rfl (λK hK=>?_);go_simp;refine dX hK ?_;clear hK K;refine aF ?_;generalize cb:World.setCell _ _ _=bU;obtain⟨bA,bt,dW⟩:=h5.o;have f:=bk.1.add aW.1 aW.2 ad (ct.Kd.snoc ce bt dW b7.1);rw[cb] at f;have bE:=ae f;clear cb f a0 ai af dW;go_wp2_with(fail);go_roundw
 case rel=>exact⟨i+1,hx,hk,F++[⟨jF i,ps,.nil⟩],by go_num,ad,bE.o⟩
 case measure=>exact aH
 ):p:=h
theorem He{p:Prop}(h:p:=by
 go_upto_region 24 with(fail);generalize bG:World.alloc _ _=A;have r:=aU bG;have n:=aI bG;have T:=cj.trans r;have y:=az (RO.aj aN.1 T) (aN.2.1.trans T) (aN.2.2.trans T);have an:=ag n r;have br:=r.size;have dI:=cj.size;have aj:=ae y.2.2;clear bG r T;obtain⟨bq,am,aG⟩:=(ah.2.2.1.aj y.2.2).two;obtain⟨d0,aK,aM⟩:=(bF.aj y.2.1).two;obtain⟨e0,be,a6⟩:=y.1.o.two;obtain⟨cq,k,flb,J,H,c0,c1,c2,c3,a8⟩:=y.1.top;obtain⟨f0,dN,dQ⟩:=n.two;clear n;have du:=aj.size;go_wp2_with(fail);refine(pa P s ⟨bV,bW,bD,TA,tn,tc,HA,hn,hc⟩ z A (cc.2.2.HN G.o (ah.1.trans aj.o)) (λb O=>LL (G.o b O) (ah.1.trans aj.o).size)).mono ?_;rintro e c6 ⟨⟨cT,bL,bX,bt,b8,bv,bU,aZ,cb⟩,rfl,ca,bP⟩;have fg:=bP.size;have da:=ae ca;have a3:=ag (ah.2.2.2.1.aj (aj.trans bP)) ((ah.1.trans aj.o).trans bP);clear ca bP f0 dN dQ d0 aK aM e0 be a6 c0 c1 c2 c3 H flb J cq k a8 bq am aG;obtain⟨bl,aD,aP⟩:=a3.1.two;go_wp2_with(fail);generalize hX:World.setCell _ _ _=Z;obtain⟨bs,a9,bf⟩:=bA (w:=w) [.slice cT bL bX,.slice bt b8 bv,.slice bU aZ cb,z] (by rfl) a3.1 a3.2 ad hX;have bk:=ag a9 bf;clear hX a9 bf bl aD aP;obtain⟨bl,aD,aP⟩:=bs.two;refine Mn (v:=.tuple #[.agg #[.slice cT bL bX,.slice bt b8 bv,.slice bU aZ cb,z],true]) (by simp[results,Tryz.results40,go_sem,bl]) rfl ?_;rw[b3.o];exact fu (B:=A.heap.size) (Q:={s with fault:=z}) da.o bk.2 (λb O=>⟨λhl=>by have:=G.o b hl;omega,ad⟩) (λb O=>by have:=G.o b O;omega) ad bk.1 rfl
 ):p:=h
theorem Hf{p:Prop}(h:p:=by
 rintro r aS ⟨rfl,b0⟩;have aO:Ext w aS:=aw.trans (Fr.of b0);obtain⟨p0,a1,bJ⟩:=(c.aj (Fr.of b0)).two;have dQ:=(aO.cell (j:=bQ+i*3+2) bz (λh=>h)).trans f2;have bB:=ae aO;clear aw aO c e0 e1 e2 e3 f0 f1 f2 dg cx b0;generalize ev g l e=r at *;obtain⟨v,f⟩:=r;by_cases J:f=0
 case neg=>
  have q5:(f != 0)=true:=by simpa using J
  have b5:=ae (show idx b4.size (v,f)=(0,f) by unfold idx;rw[if_pos J]);clear J;go_wp2
  go_ret2
  exact gp.mk' b5.o (Fr.ext bB.o)
 have q5:(f != 0)=false:=by simpa using J
 by_cases bE:v<0
 .have dr:decide (v<0)=true:=by simpa using bE
  have b5:=ae (show idx b4.size (v,f)=(0,2) by unfold idx;rw[if_neg (by simpa using J),if_pos (.inl bE)]);clear J bE;go_wp2
  go_ret2
  exact gp.mk' b5.o (Fr.ext bB.o)
 have dr:decide (v<0)=false:=by simpa using bE
 by_cases dG:b4.size<=v
 .have q7:decide (v>=b4.size)=true:=by simpa using dG
  have b5:=ae (show idx b4.size (v,f)=(0,2) by unfold idx;rw[if_neg (by simpa using J),if_pos (.inr dG)]);clear J bE dG;go_wp2
  go_ret2
  exact gp.mk' b5.o (Fr.ext bB.o)
 .have q7:decide (v>=b4.size)=false:=by simpa using dG
  have b5:=ae (show idx b4.size (v,f)=(v,0) by unfold idx;rw[if_neg (by simpa using J),if_neg ad]);clear J bE dG;go_wp2
  go_ret2
  exact gp.mk' b5.o (Fr.ext bB.o)
 ):p:=h
theorem DR{p:Prop}(h:p:=by
 rintro e aT ⟨bb,rfl,aB,aW⟩;have bc:=ag aB (br.1.trans aW);clear aB aW
 cases bb with
 | true=>
  go_wp2_with(fail);go_ret
  exact⟨(i:Int),rfl,⟨λ_=>⟨_,LN bN.o,bc.1.1 (by first|rfl|trivial)⟩,λ_=>ad⟩,bc.2⟩
 | false=>
  go_wp2_with(fail);go_roundw
  case rel=>
   refine⟨i+1,by go_num,ad,bc.2,λj x bd hx=>?_⟩;by_cases M:j<i
   .exact br.2 j x M hx
   .obtain rfl:j=i:=ad;rw[bN.o] at hx;injection hx with hx;subst hx;exact λh=>by have:=bc.1.2 h;first|cases this|exact this
  case measure=>exact aH
 ):p:=h
theorem xJ{p:Prop}(h:p:=by
 go_wp2;go_roundw
 case rel=>exact⟨k+1,ad,by go_num,by rw[<-aK.o],br.trans (P.trans bB.o)⟩
 case measure=>exact aH
 ):p:=h
theorem Hg{p:Prop}(h:p:=by
 by_cases cI:hd.depth - 1=0
 .have C:(hd.depth - 1 == 0)=true:=by simpa using cI
  have dB:=ae cI;clear cI;go_wp2
  go_ret2
  refine gP.mk' (A:=some ⟨g,0,none⟩) (c:=c1) (n:=n2) H.o ?_ ?_ b3.o
  .rw[b6.o,down,if_pos dB.o];have a7:(T.set k ⟨hd.owner,hd.depth - 1⟩)[k]?=some ⟨hd.owner,hd.depth - 1⟩:=by rw[List.getElem?_set_self ad]
   obtain⟨ag,j,_,_,_,_,_,F,_⟩:=jM y.o a8 a7;injection j with j;injection j with j;subst j;have:=F 0;rw[List.set_set] at this;exact this
  .exact(O.setCell (by simpa using aR) _).setCell (by simpa using aR) _
 .have C:(hd.depth - 1 == 0)=false:=by simpa using cI
  have dB:=ae cI;clear cI;go_wp2
  go_ret2
  refine gP.mk' (A:=some ⟨g,0,none⟩) (c:=c1) (n:=n2) H.o ?_ ?_ b3.o
  .rw[b6.o,down,if_neg dB.o];exact y.o
  .exact O.setCell (by simpa using aR) _
 ):p:=h
theorem Hh{p:Prop}(h:p:=by
 have b3:=ae (bw.o cg);have a3:=ag (ah.2.2.2.1.aj bC.2.2) (ah.1.trans bC.2.2);have cd:=bC.2.2.size;obtain⟨bl,aD,aP⟩:=a3.1.two;obtain⟨e0,be,a6⟩:=bC.2.1.two;go_wp2_with(fail);generalize hX:World.setCell _ _ _=Z;obtain⟨bs,a9,bf⟩:=bA (w:=w) [.slice bh bJ aY,.slice I tn aE,.slice (some ⟨O,0,none⟩) cu S,.int .i64 s.fault] (by rfl) a3.1 a3.2 ad hX;have bk:=ag a9 bf;clear hX a9 bf bl aD aP e0 be a6;obtain⟨bl,aD,aP⟩:=bs.two;refine Mn (v:=.tuple #[.agg #[.slice bh bJ aY,.slice I tn aE,.slice (some ⟨O,0,none⟩) cu S,.int .i64 s.fault],true]) (by simp[results,Tryz.results40,go_sem,bl]) rfl ?_;exact BS
 ):p:=h
theorem Hi{p:Prop}(h:p:=by
 have a3:=ag (ah.2.2.2.1.aj bC.2.2) (ah.1.trans bC.2.2);have cd:=bC.2.2.size;obtain⟨bl,aD,aP⟩:=a3.1.two;obtain⟨e0,be,a6⟩:=bC.2.1.two;go_wp2_with(fail);generalize hX:World.setCell _ _ _=Z;obtain⟨bs,a9,bf⟩:=bA (w:=w) [.slice bh bJ aY,.slice ab m L,.slice (some ⟨O,0,none⟩) cu S,.int .i64 s.fault] (by rfl) a3.1 a3.2 ad hX;have bk:=ag a9 bf;clear hX a9 bf bl aD aP e0 be a6;obtain⟨bl,aD,aP⟩:=bs.two;refine Mn (v:=.tuple #[.agg #[.slice bh bJ aY,.slice ab m L,.slice (some ⟨O,0,none⟩) cu S,.int .i64 s.fault],true]) (by simp[results,Tryz.results40,go_sem,bl]) rfl ?_;rw[b3.o];exact fu (B:=V.heap.size) bC.1 bk.2 (λb O=>⟨λhl=>by have:=G.o b hl;omega,ad⟩) (λb O=>by have:=G.o b O;omega) ad bk.1 (by rw[et bN.2.1,List.set_set];rfl)
 ):p:=h
theorem Hj{p:Prop}(h:p:=by
 have bp:(0:Int)<=(k:Int):=ad;have ce:(k:Int)<(n:Int):=ad;by_cases hd:x=d
 .have aN:=ae (show S[k]?=T[k]? by rw[hx,g,hd]);have u:(x != d)=false:=by simp[hd]
  clear hx g hd;go_wp2;go_quiet (fail)
  go_wp2;go_roundw
  case rel=>
   refine⟨k+1,ad,by go_num,λj bd=>?_,cY O _⟩;exact B2
  case measure=>exact aH
 .have a3:=ae (show decide (S=T)=false from decide_eq_false (λh=>by
   subst h;rw[hx] at g;injection g with g;exact hd g))
  have u:(x != d)=true:=by simp[hd]
  clear hx g hd;go_wp2;go_quiet (fail)
  go_wp2;go_ret;exact⟨ret_bool (by rw[a3.o]),cY O _⟩
 ):p:=h
theorem DS{p:Prop}(h:p:=by
 exact BS
 ):p:=h
theorem Hk{p:Prop}(h:p:=by
 clear h;go_enter func123,ntmps123;go_upto_region 1 with(fail);generalize ba:World.alloc _ _=W;have aw:=h9 ba;have aQ:=gb ba;have cv:=fG ba;obtain⟨a0,ai,af⟩:=aQ.two;obtain⟨bl,aD,aP⟩:=cv.two;have br:=ag aw cv;clear ba aw aQ cv;go_wp2_with(fail);generalize hX:World.setCell _ _ _=X;obtain⟨bp,bu,cE⟩:=bA (w:=w) [(0:Int),(0:Int),(),()] (by rfl) br.2 br.1 ad hX;have aN:=ae bu;clear hX bu cE a0 ai af bl aD aP;exact BR
 ):p:=h
theorem Hl{p:Prop}(h:p:=by
 have bo:=ag L aE;have b8:=ah.2.2.2.1.on bQ.2 (λh=>by have:=ah.2.2.2.2;omega);have aB:=ae b8;obtain⟨e0,be,a6⟩:=b8.two;clear h he L aE b8;go_wp2_with(fail);generalize co:World.setCell _ _ _=Y;obtain⟨bH,bG,bx⟩:=ei (M:=λb=>b=s) [(1:Int),b9,Mq,()] (by rfl) aB.o (ah.2.2.1.trans bQ.2) (LK _) co;obtain⟨bl,aD,aP⟩:=bH.two;refine Mn (v:=.agg #[(1:Int),b9,Mq,()]) (by simp[results,Tryz.results105,go_sem,bl]) rfl ?_;exact⟨.num b9,none,0,0,rfl,(by cases d<;>exact bo.o),LK _,Sl.bS _,bQ.1.cT bx (λb O h=>by have:=ah.2.2.2.2;omega),bG⟩
 ):p:=h
theorem DT{p:Prop}(h:p:=by
 by_cases ag:j<k
 .exact aD.o j u ag g
 .obtain rfl:j=k:=ad;rw[aN.o] at g;injection g with g;rw[<-g];exact aY.o
 ):p:=h
theorem Hm{p:Prop}(h:p:=by
 obtain⟨bl,aD,aP⟩:=a3.1.two;go_wp2_with(fail);generalize hX:World.setCell _ _ _=Z;obtain⟨bs,a9,bf⟩:=bA (w:=w) [.slice cT bL bX,.slice bt b8 bv,.slice bU aZ cb,z] (by rfl) a3.1 a3.2 ad hX;have bk:=ag a9 bf;clear hX a9 bf bl aD aP;obtain⟨bl,aD,aP⟩:=bs.two;refine Mn (v:=.tuple #[.agg #[.slice cT bL bX,.slice bt b8 bv,.slice bU aZ cb,z],true]) (by simp[results,Tryz.results40,go_sem,bl]) rfl ?_;rw[b3.o];exact fu (B:=cS.heap.size) (Q:={s with fault:=z}) da.o bk.2 (λb O=>⟨λhl=>by have:=G.o b hl;omega,ad⟩) (λb O=>by have:=G.o b O;omega) ad bk.1 rfl
 ):p:=h
theorem DU{p:Prop}(h:p:=by
 rw[ah];exact ae ⟨aj.sl (λb O=>⟨O.1,O.2.1,O.2.2.1⟩) ⟨ad,ad,ad⟩,d9,r,by rw[List.length_set];exact N.2.2.2.2.2.1.1,λf2 aC=>by
  rcases List.mem_or_eq_of_mem_set aC with aC|aC
  .have:=N.2.2.2.2.2.1.2 f2 aC;omega
  .rw[aC];have:=N.2.2.2.2.1;show f.an.length<=1000000;omega⟩
 ):p:=h
theorem Jn{p:Prop}(h:p:=by
 exact BR
 ):p:=h
theorem Hn{p:Prop}(h:p:=by
 have c0:=a4 0 cK rfl;have c1:=a4 1 cp rfl;have c2:=a4 2 cX rfl;have c3:=a4 3 bx rfl;simp only[LW] at c0;have a1:b<wr:=O;clear a4 O;obtain⟨B,bv,bc,e,cx,cv⟩:=aZ.1 bR;simp only[List.cons.injEq,and_true] at e;obtain⟨rfl,rfl,rfl,rfl⟩:=e;obtain⟨bC,H⟩:=aJ bb bR;clear bb bR cv;go_wp2_with(fail);refine(b5.o k z bC.o _ _ _ _ _ _ wr H.o).mono ?_;rintro e aT ⟨rfl,bJ⟩;have a8:=ae (br.trans bJ);have bz:=ae (b9.aj bJ);clear bJ;exact B0
 ):p:=h
theorem Ho{p:Prop}(h:p:=by
 rintro e aT ⟨bb,rfl,aB,aW⟩;have bc:=ag aB ((br.1.trans bC.o).trans aW);clear aB aW ci bO b5 cK aG aK
 cases bb with
 | false=>
  go_wp2_with(fail);go_ret;refine⟨false,rfl,⟨λh=>(by cases h),λh=>?_⟩,bc.2⟩;have ac:=bN.1;rw[h,bN.2] at ac;injection ac with ac
  exact bc.1.2 ac.symm
 | true=>
  go_wp2_with(fail);go_roundw
  case rel=>
   refine⟨i+1,by go_num,ad,bc.2,λj bd=>?_⟩;by_cases M:j<i
   .exact br.2 j M
   .obtain rfl:j=i:=ad;rw[bN.1,bN.2,bc.1.1 (by first|rfl|trivial)]
  case measure=>exact aH
 ):p:=h
theorem Hp{p:Prop}(h:p:=by
 go_wp2_with(fail);refine(show Calls prog 129 #[.pointer (some ⟨g,0,none⟩),.string ⟨#[40]⟩] w _ from kb [40] g A n c T k deep w H.o bN.1 ad).mono ?_;rintro e aS ⟨rfl,bg,hF⟩;have H1:=ag bg hF;clear bg hF;go_wp2_with(fail);refine(show Calls prog 88 #[.pointer (some ⟨g,0,none⟩),.string ⟨#[41]⟩] aS _ from cJ [41] g A n c T (k+1) deep aS H1.1 true bN.2 (λ_=>ad)).mono ?_;rintro e aT ⟨rfl,bg,hF⟩;have bc:=ag (show bI aT g A n c T (k+2) deep from by simpa using bg) (H1.2.trans hF);clear bg hF H1;go_wp2_with(fail);go_ret;exact⟨rfl,bc.o⟩
 ):p:=h
theorem tJ{p:Prop}(h:p:=by
 go_wp2;go_ret;exact⟨ret_bool (by rw[a3.o]),a1.alloc cv _⟩
 ):p:=h
theorem DV{p:Prop}(h:p:=by
 have a3:=ae (show decide (S=T)=true from decide_eq_true (by
  apply List.ext_getElem?
  intro j;by_cases bd:j<k
  .exact aD.o j bd
  .rw[List.getElem?_eq_none (ay b6.o),List.getElem?_eq_none (ay L.o)]))
 go_wp2;go_ret;exact⟨ret_bool (by rw[a3.o]),O⟩
 ):p:=h
theorem tK{p:Prop}(h:p:=by
 rw[List.getElem?_eq_getElem (by rw[aY];decide)] at this;exact⟨_,by simpa[e] using this⟩
 ):p:=h
theorem DW{p:Prop}(h:p:=by
 clear aw P;go_wp2_with(fail);go_ret;refine⟨-1,rfl,⟨λh=>ad,λ⟨x,hx,hp⟩=>?_⟩,br.1⟩;obtain⟨j,bd⟩:=List.getElem?_of_mem hx;exact absurd hp (br.2 j x (by have:=(List.getElem?_eq_some_iff.1 bd).1;have:=bX.1;omega) bd)
 ):p:=h
theorem Hq{p:Prop}(h:p:=by
 refine gP.mk' (A:=some ⟨g,0,none⟩) (c:=c1) (n:=n2) H.o ?_ ?_ b3.o
 .rw[b6.o];have a7:(T.set k ⟨th+1,hd.depth⟩)[k]?=some ⟨th+1,hd.depth⟩:=by rw[List.getElem?_set_self ad]
  obtain⟨ag,j,_,_,_,_,_,_,s1⟩:=jM l.o a8 a7;injection j with j;injection j with j;subst j;have:=s1 (hd.depth+1);rw[List.set_set] at this;exact this
 .exact(dr.setCell (by simpa using aR) _).setCell (by simpa using aR) _
 ):p:=h
theorem DX{p:Prop}(h:p:=by
 go_wp2_with(fail);refine b5.mono ?_;rintro e aT ⟨r,rfl,a5,aW⟩;have bc:=ag a5 aW;clear a5 aW;go_wp2_with(fail);go_ret;exact⟨decide (r>=0),rfl,⟨λh=>bc.1.1 (of_decide_eq_true h),λh=>decide_eq_true (bc.1.2 h)⟩,bc.2⟩
 ):p:=h
theorem Hr{p:Prop}(h:p:=by
 rw[aY bN.o,qq,<-List.append_assoc,LR,bs];have ac:=(al.dr (ab:=X) b4.size λb an hp=>b4.block b an λhe=>by
  subst he;rcases hp with hp|hp
  .exact hp.elim
  .exact aZ.1 hp).dr (ab:=b5) I.size λb an hp=>I.block b an λhe=>by
  subst he;rcases hp with hp|hp
  .exact hp.elim
  .exact aZ.2 hp
 show Gr (λ_=>False) W.heap.size 105 3 b5 A2 (ln+k+1) c2 _
 simpa using ac
 ):p:=h
theorem rk{p:Prop}(h:p:=by
 go_wp2;go_ret;exact⟨ret_bool (by rw[a3.o]),O⟩
 ):p:=h
theorem Hs{p:Prop}(h:p:=by
 go_wp2_with(fail);generalize co:World.setCell _ _ _=Y;obtain⟨bH,bG,bx⟩:=ei (M:=λ_=>False) [(),(),()] (by rfl) bt.2.2.1 (w:=w) bt.1 ad co;obtain⟨bl,aD,aP⟩:=bH.two;refine Mn (v:=.tuple #[.agg #[(),(),()],(11:Int)]) (by simp[results,Tryz.results13,go_sem,bl]) rfl ?_;exact⟨_,_,_,_,_,_,_,_,_,_,rfl,bG⟩
 ):p:=h
theorem Ht{p:Prop}(h:p:=by
 go_wp2_with(at_builtin;refine cN aT kF rfl (.tmp 28) (.tmp 30) rfl (w.heap.size+1) _ k _ #[_] rfl a6.o rfl rfl (by simp[Value.oneCell']) ad ad cv ?_;intro cr b7 f dW av;obtain⟨cC,c3,rfl,bk,_⟩:=bT f);go_roundw
 case rel=>
  refine⟨k+1,ad,by go_num,l.on (Iw a6.o dW λg aR=>aR),?_⟩;rw[xi X.o,<-aK.o];exact f
 case measure=>exact aH
 ):p:=h
theorem Jo{p:Prop}(h:p:=by
 obtain⟨cV,cD,_,ao,_⟩:=h.hF.ex;rw[h.hp] at cD;injection cD with cD;subst cD;rcases aX with⟨ac,ap,aV,bz,cI⟩|⟨ac,_⟩|⟨ac,_⟩|⟨ac,_,ap,aV,bz⟩|⟨ac,_⟩|⟨ac,_⟩
 .exact⟨ap,aV,λ_ aR=>by have:=bz aR;simpa[bx] using this,λ_ aR=>by have:=cI aR;omega⟩
 .omega
 .omega
 .exact⟨ap,aV,λh=>ad,λh=>ad⟩
 .omega
 .omega
 ):p:=h
theorem Hu{p:Prop}(h:p:=by
 by_cases ac:op=16
 .refine .inl ⟨by simpa using ac,?_,by simp;omega⟩;have:v1≠0:=λah=>aZ ⟨ac,ah⟩;simpa using this
 .by_cases ap:op=17
  .refine .inr (.inl ⟨by simpa using ac,by simpa using ap,?_⟩);by_cases bE:v1=0
   .simpa using bE
   .exact absurd ⟨ap,bE⟩ bn
  .exact .inr (.inr ⟨by simpa using ac,by simpa using ap⟩)
 ):p:=h
theorem Hv{p:Prop}(h:p:=by
 rintro a5 bg ⟨rfl,ar⟩;have aG:=ae (aa.trans ar);have aT:=ae (aN.trans ar);have bE:=ae (N.aj ar);have bU:=ae (bU.aj ar);clear a0 ai af aa aN N;obtain⟨a0,ai,af⟩:=bU.two;clear a0 ai af;obtain⟨a0,ai,af⟩:=bU.two;go_wp2;go_roundw
 case rel=>exact⟨j+1,ad,by go_num,aG.o,aT.o,bE.o⟩
 case measure=>exact aH
 ):p:=h
theorem DY{p:Prop}(h:p:=by
 constructor
 .rintro⟨y,rfl,h⟩;rw[bo] at h;obtain⟨cX,rfl,h⟩:=h;rw[aR] at h;subst h;rfl
 .rintro rfl;exact⟨_,rfl,bo.2 ⟨_,rfl,aR.2 rfl⟩⟩
 ):p:=h
theorem tL{p:Prop}(h:p:=by
 go_enter func54,ntmps54;go_wp2_with(fail);go_ret;exact⟨rfl,Mo.alloc _⟩
 ):p:=h
theorem xK{p:Prop}(h:p:=by
 generalize (Value.agg #[.int .i64 x.bf,.int .i64 x.numOf,.string x.bu,.slice cX cO cY])=Y;intro aO;exact key a3 Y _ aO
 ):p:=h
theorem xL{p:Prop}(h:p:=by
 go_wp2;go_roundw
 case rel=>exact⟨k+1,ad,by go_num,by rw[<-aK.o],bB.o⟩
 case measure=>exact aH
 ):p:=h
theorem Hw{p:Prop}(h:p:=by
 rintro e aE ⟨rfl,he⟩;have a8:=ae (bB.trans he);have y:=ae (m.trans he);have bz:=ae (G.aj he);clear he a0 ai af bB m G;obtain⟨a0,ai,af⟩:=bz.two;go_wp2;refine wp_loop_rounds 1 ?_;rw[rounds_succ];go_wp2;go_roundw
 case rel=>exact⟨k+1,ad,by go_num,a8.o⟩
 case measure=>exact aH
 ):p:=h
theorem xM{p:Prop}(h:p:=by
 rcases O with O|O
 .rw[O] at hc;exact a1.2.2 hc
 .rw[O] at hc;injection hc with hc;have:=a1.2.1;omega
 ):p:=h
theorem rl{p:Prop}(h:p:=by
 exact gP.mk' H.o (by rw[b6.o];exact ao) O b3.o
 ):p:=h
theorem xN{p:Prop}(h:p:=by
 refine fin _ λs hs=>?_;rcases L5.1 hs with rfl|hs
 .exact⟨c,c⟩
 .exact Z.2 s hs
 ):p:=h
theorem Hx{p:Prop}(h:p:=by
 exact B0
 ):p:=h
theorem Hy{p:Prop}(h:p:=by
 have n:=ae e1;clear e1;go_wp2_with(fail);go_ret;exact⟨false,rfl,⟨λh=>(by cases h),λh=>absurd (b4.1 h).1 (ay n.o)⟩,ah.1⟩
 ):p:=h
theorem DZ{p:Prop}(h:p:=by
 obtain⟨A,n,c,ac,ap,aV⟩:=h.ex;exact⟨LL h.lt O.size,A,n,c,ac,(O.cell h.lt (λh=>h)).trans ap,aV.on (Fr.ext O)⟩
 ):p:=h
theorem D0{p:Prop}(h:p:=by
 simp only[D.aM,D.rep];constructor
 .rintro⟨x,y,rfl,rfl,h⟩;exact⟨y,rfl,h⟩
 .rintro⟨y,rfl,h⟩;exact⟨_,y,rfl,rfl,h⟩
 ):p:=h
theorem xO{p:Prop}(h:p:=by
 go_wp2;go_roundw
 case rel=>exact⟨k+1,ad,by go_num,cd.o⟩
 case measure=>exact aH
 ):p:=h
theorem Hz{p:Prop}(h:p:=by
 unfold eU at h;rw[bN,fD] at h;obtain⟨y,rfl,h⟩:=h;obtain⟨x,cX,rfl,hx,bb⟩:=dL.1 h;obtain⟨A,n,c,rfl,hc,hs⟩:=jD.1 hx;rw[D.bg] at bb;obtain⟨A2,c2,rfl⟩:=fw.1 bb;exact⟨_,A,n,c,_,_,rfl,hx⟩
 ):p:=h
theorem xP{p:Prop}(h:p:=by
 clear bn cn;go_wp2;go_ret;refine⟨ret_bool ?_,O⟩;rw[a3.o,i.o,ch.o];simp
 ):p:=h
theorem HB{p:Prop}(h:p:=by
 rcases h with⟨m,hm,_,ac,ap⟩|⟨_,hp⟩
 .by_cases aL:0<m.size
  .obtain⟨l,a,hs⟩:=ac aL;rw[aX] at a;injection a with a;subst a;exact hs
  .rw[ap aL] at aX;cases aX
 .rw[hp] at aX;cases aX
 ):p:=h
theorem HC{p:Prop}(h:p:=by
 clear aw P;go_wp2_with(fail);go_ret;refine⟨true,rfl,⟨λ_=>List.ext_getElem? λj=>?_,λ_=>rfl⟩,br.1⟩;by_cases bd:j<i
 .exact br.2 j bd
 .rw[List.getElem?_eq_none (ay bX.1),List.getElem?_eq_none (ay bX.2.1)]
 ):p:=h
theorem HD{p:Prop}(h:p:=by
 exact B2
 ):p:=h
theorem HE{p:Prop}(h:p:=by
 have q1:((n:Int) != (m:Int))=true:=by simp;omega
 have F:=ae R;clear R;go_wp2_with(fail);go_ret;exact⟨false,rfl,⟨λh=>(by cases h),λh=>absurd (by rw[<-bX.1,<-bX.2.1,h]) F.o⟩,Mo⟩
 ):p:=h
theorem HF{p:Prop}(h:p:=by
 obtain⟨cp,rfl,ac⟩:=bo.1 h;obtain⟨cX,rfl,ap⟩:=bo.1 ac;obtain⟨bx,rfl,aV⟩:=bo.1 ap;obtain⟨A,n,c,bK,rfl,hc,hs,bz⟩:=aO.1 aV;rw[aR] at bz;subst bz;exact⟨A,n,c,rfl,hc,hs⟩
 ):p:=h
theorem HG{p:Prop}(h:p:=by
 unfold cD;rw[bN,cu];constructor
 .rintro⟨y,rfl,h⟩;rw[fD] at h;obtain⟨cX,rfl,h⟩:=h;rw[aR] at h;subst h;rfl
 .rintro rfl;exact⟨_,rfl,fD.2 ⟨_,rfl,aR.2 rfl⟩⟩
 ):p:=h
theorem rm{p:Prop}(h:p:=by
 go_wp2;go_ret;exact⟨ret_int (by rw[a3.o]),O⟩
 ):p:=h
theorem zD{p:Prop}(h:p:=by
 have a3:=ae (show fk X T th=true from ot b6.o λj hd hx=>aD.o j hd (by have:=(List.getElem?_eq_some_iff.1 hx).1;have:=L.o;omega) hx);go_wp2;go_ret;exact⟨ret_bool (by rw[a3.o]),a1⟩
 ):p:=h
theorem zE{p:Prop}(h:p:=by
 have a3:=px r1 aZ.1 aZ.2 gT gW f0 rg ro;clear r1 gT gW f0 rg ro al be cf cR aZ b4 m I bY c0 cl b1;go_wp2;go_roundw
 case rel=>exact⟨k+1,A2,c2,ad,by go_num,a3.o⟩
 case measure=>exact aH
 ):p:=h
theorem zF{p:Prop}(h:p:=by
 simp only[Mb,Atom.bytes,L4,Mh];unfold fK;simp only[g,b9,H,Mm,if_false,k];rw[if_neg ad,if_neg ad];exact pO (Z _) (by simp) (by simp)
 ):p:=h
theorem vq{p:Prop}(h:p:=by
 have hle:=(Fr.aG ar).size;clear hV ar;generalize aS.heap.size=dh at *;exact key dh V ⟨bo,aQ,hle⟩
 ):p:=h
theorem zG{p:Prop}(h:p:=by
 have:b=.sg [41]:=by
  simp[ep] at O;exact O.symm
 subst this;refine⟨λh=>by simp[Atom.kB] at h,λs hs _ c hc=>?_⟩;injection hs with hs;subst hs;simp[Atom.head] at hc;subst hc;decide
 ):p:=h
theorem zH{p:Prop}(h:p:=by
 apply List.ext_getElem?
 intro j;rw[List.getElem?_map,List.getElem?_map];by_cases bd:i=j
 .subst bd;rw[List.getElem?_set_self (List.getElem?_eq_some_iff.1 J).1,J];rfl
 .rw[List.getElem?_set_ne bd]
 ):p:=h
theorem zI{p:Prop}(h:p:=by
 have ac:=e1.size;exact⟨λO=>by
  rcases cn _ O with h|h
  .exact(ao _ h).2.1 rfl
  .omega,λO=>by
  rcases cn _ O with h|h
  .exact(ao _ h).2.2 rfl
  .omega⟩
 ):p:=h
theorem zJ{p:Prop}(h:p:=by
 have q1:(a1 == bJ)=false:=by simpa using e1
 have bX:=ae e1;clear e1;go_wp2_with(fail);go_ret;exact⟨false,rfl,⟨λh=>(by cases h),λh=>absurd (b4.1 h).1 bX.o⟩,ah.1⟩
 ):p:=h
theorem H8{p:Prop}(h:p:=by
 rw[mD];exact(bt.2.2.2.2.1.ai λb O=>J.block b O.2 (lV O.1 a3.2.1.lt)).mono λb O=>⟨by have:=O.1;have:=a3.2.1.lt;omega,by have:=O.2;have:=J.size;omega⟩
 ):p:=h
theorem sk{p:Prop}(h:p:=by
 exact kD.bad a3.o (b6.below.trans (aa.below.mono b6.below.size))
 ):p:=h
theorem zK{p:Prop}(h:p:=by
 have cc:=ae bE;clear bE;go_wp2_with(fail);go_ret;exact⟨false,rfl,⟨λh=>(by cases h),λh=>by have ac:=(b4.1 h).2.2.2.2.2.1;rw[cc.o] at ac;cases ac⟩,H1.2⟩
 ):p:=h
theorem sn{p:Prop}(h:p:=by
 have ap:=b9.2;simp only[LQ,Me,ap];exact ac
 ):p:=h
theorem H9{p:Prop}(h:p:=by
 rw[mD];exact(bt.2.2.2.2.1.ai λb O=>J.block b O.2 (lV O.1 a3.2.1.lt)).mono λb O=>⟨by have:=O.1;omega,by have:=O.2;have:=J.size;omega⟩
 ):p:=h
theorem zL{p:Prop}(h:p:=by
 obtain⟨nl,cg⟩:∃nl,nl=R:=⟨_,rfl⟩
 rw[<-cg] at b6 ⊢;clear ah cg aj r ai d8 af ci bO b5 e0 e1 e2 e3 eQ g2 eq ep aY dd cR f1 a8
 ):p:=h
theorem so{p:Prop}(h:p:=by
 rw[aR] at aV;subst aV;exact⟨A,n,c,rfl,hc,hs⟩
 ):p:=h
theorem zM{p:Prop}(h:p:=by
 obtain⟨len,_,aX⟩:=h.ok;rcases aX with⟨ac,_⟩|⟨ac,_⟩|⟨_,_,ac⟩|⟨ac,_⟩|⟨ac,_⟩|⟨ac,_⟩<;>first|exact ac|omega
 ):p:=h
theorem sq{p:Prop}(h:p:=by
 generalize wr.heap.size=aC;intro ah;exact key a3 aC j _ ah
 ):p:=h
theorem zN{p:Prop}(h:p:=by
 refine⟨_,_,_,_,_,rfl,?_,bG.drew⟩;rw[bj.o];refine eh.2 ⟨none,0,0,rfl,LK _,?_⟩;simp only[aX];exact Sl.bS _
 ):p:=h
theorem vr{p:Prop}(h:p:=by
 go_wp2;go_ret;exact⟨ret_int (by rw[a3.o];rfl),Mo.alloc _⟩
 ):p:=h
theorem vt{p:Prop}(h:p:=by
 exact⟨_,rfl,aO.2 ⟨A,n,c,[],rfl,hc,hs,aR.2 rfl⟩⟩
 ):p:=h
theorem zO{p:Prop}(h:p:=by
 obtain⟨len,_,aX⟩:=i.ok;rcases aX with⟨ac,_⟩|⟨ac,_⟩|⟨ac,_⟩|⟨ac,_⟩|⟨ac,_⟩|⟨ac,_⟩<;>omega
 ):p:=h
theorem zP{p:Prop}(h:p:=by
 intro hm;rcases hm with hm|hm|hm
 .have:=HA.lt;omega
 .have:=(HA.rows.one.lt hm).2;omega
 .have:=(HA.rows.two.lt hm).2;omega
 ):p:=h
theorem zQ{p:Prop}(h:p:=by
 simp only[LU] at O ⊢;rcases O with O|O|O
 .exact .inl O
 .exact .inr (.inl O)
 .exact .inr (.inr (.inr O))
 ):p:=h
theorem sr{p:Prop}(h:p:=by
 have:=N.2;simpa[q6,ri] using this
 ):p:=h
theorem zR{p:Prop}(h:p:=by
 rw[<-hX];exact⟨Q.below.setCell (p:=⟨wr,0,none⟩) (LK _) _,Q.blk.aN 0 _,by simpa using Q.lt⟩
 ):p:=h
theorem zS{p:Prop}(h:p:=by
 obtain⟨nl,cg⟩:∃nl,nl=R:=⟨_,rfl⟩
 rw[<-cg] at b6 ⊢;clear ah cg aj dW r af ci bO b5 e0 e1 e2 e3 eQ
 ):p:=h
theorem ss{p:Prop}(h:p:=by
 go_wp2;go_ret;exact⟨ret_bool a3.symm,a8.o⟩
 ):p:=h
theorem Ia{p:Prop}(h:p:=by
 have b1:(hd.owner == 0)=true:=by simpa using bn
 clear bn;go_wp2;go_ret;exact⟨ret_bool (by rw[a3.o,ch.o];rfl),O⟩
 ):p:=h
theorem zT{p:Prop}(h:p:=by
 unfold gj;rw[bN];exact cu.2 ⟨_,rfl,aO.2 ⟨none,0,0,[],rfl,LK _,Sl.bS _,aR.2 rfl⟩⟩
 ):p:=h
theorem zU{p:Prop}(h:p:=by
 clear ah;conv=>arg 2;whnf
 go_wp2
 try refine x _ _ ?_
 unfold q0
 iterate 248 apply Exists.intro
 exact⟨bn.o,rfl⟩
 ):p:=h
theorem vu{p:Prop}(h:p:=by
 go_wp2;go_ret;exact⟨ret_bool (by rw[a3.o]),Below.refl _ _⟩
 ):p:=h
theorem zV{p:Prop}(h:p:=by
 have bD:L=T:=by rw[<-b9.o];unfold fL;rw[J];rfl
 exact gP.mk' H.o (by rw[bD];exact S) dr J
 ):p:=h
theorem vv{p:Prop}(h:p:=by
 go_wp2;go_ret;exact⟨ret_int (by rw[b9.o]),Below.refl _ _⟩
 ):p:=h
theorem zW{p:Prop}(h:p:=by
 rw[D.bg] at bb;obtain⟨A2,dv,c2,rfl,_,_⟩:=aZ.1 bb;exact⟨_,_,_,_,_,_,_,_,rfl,bb⟩
 ):p:=h
theorem zX{p:Prop}(h:p:=by
 rcases Nat.eq_zero_or_pos n2 with ac|ac
 .exact ac
 .obtain⟨b,o,ap,_⟩:=ht.2 ac;rw[h0] at ap;cases ap
 ):p:=h
theorem zY{p:Prop}(h:p:=by
 generalize (Value.agg (z.val nn))=Y;generalize (Value.agg (b8.val (dT q4)))=G;intro F;exact key aC G Y _ F
 ):p:=h
theorem vw{p:Prop}(h:p:=by
 have:=(List.getElem?_eq_some_iff.1 hm).1;simp at this;omega
 ):p:=h
theorem vx{p:Prop}(h:p:=by
 exact gp.mk' rfl ((Below.refl _ _).alloc (LK _) _)
 ):p:=h
theorem zZ{p:Prop}(h:p:=by
 exact Fr.low (M:=λb=>b=S.heap.size+1+1) ((ac.mono λ_ h=>h.elim).trans aC) λk aj=>ad
 ):p:=h
theorem z0{p:Prop}(h:p:=by
 unfold heldBy;rw[f,show (hd.owner == th+1)=true by simpa using bz,decide_eq_true ⟨hm,aV⟩];rfl
 ):p:=h
theorem z1{p:Prop}(h:p:=by
 rcases H with H|H
 .rw[H] at O;exact .inl O
 .rw[H] at O;injection O with O;right;omega
 ):p:=h
theorem z2{p:Prop}(h:p:=by
 generalize (Value.agg (z.val S))=Y;generalize (Value.slice A2 bg c2)=G;intro F;exact key aC G Y _ F
 ):p:=h
theorem z3{p:Prop}(h:p:=by
 obtain⟨cX,rfl,h⟩:=h;rw[bo] at h;obtain⟨bx,rfl,h⟩:=h;rw[aR] at h;subst h;rfl
 ):p:=h
theorem Ib{p:Prop}(h:p:=by
 rcases hm with hm|hm
 .rcases hp with hp|hp
  .omega
  .have:=(bv b hp).1;omega
 .omega
 ):p:=h
theorem z4{p:Prop}(h:p:=by
 cases j with
 | zero=>simp[oB] at bd;exact⟨rfl,bd.symm⟩
 | succ j=>simp[oB] at bd
 ):p:=h
theorem z5{p:Prop}(h:p:=by
 exact(lC.cons (.cons (.cons (.app (.cons (.nl (l:=[]) λa h=>by simp at h)))))).2 a aZ
 ):p:=h
theorem vy{p:Prop}(h:p:=by
 go_wp2;go_ret;exact⟨rfl,Mo.alloc _⟩
 ):p:=h
theorem z6{p:Prop}(h:p:=by
 simp only[VE.bf,VE.numOf,VE.bu] at *;go_wp2;go_ret;exact⟨ret_str bX.o,br.o⟩
 ):p:=h
theorem z7{p:Prop}(h:p:=by
 by_cases ah:0<=a9 X e/\0<=th
 .exact ah
 .rw[p1 ah] at J;cases J
 ):p:=h
theorem z8{p:Prop}(h:p:=by
 rintro e ab ⟨rfl,bg,hF⟩;exact⟨none,0,0,rfl,LK _,bg,hF,Sl.bS _⟩
 ):p:=h
theorem Aa{p:Prop}(h:p:=by
 have:=bk.2.2.1
 cases d with
 | zero=>exact this.elim
 | succ dg=>exact⟨dg,rfl⟩
 ):p:=h
theorem Ab{p:Prop}(h:p:=by
 conv=>lhs;rw[<-dk b1]
 simp only[ByteArray.append_assoc,ah];simp
 ):p:=h
theorem Ac{p:Prop}(h:p:=by
 exact xc (q:=⟨bV,bW,bD,TA,tn,tc,HA,hn,hc⟩) cc.2.2 G.o bk.o
 ):p:=h
theorem Ad{p:Prop}(h:p:=by
 unfold heldBy;rw[f,show (hd.owner == th+1)=false by simpa using bz];simp
 ):p:=h
theorem Ae{p:Prop}(h:p:=by
 go_wp2;go_ret;exact⟨none,0,rfl,World.ownsRow_nil _ _ _ _,Below.refl _ _⟩
 ):p:=h
theorem Af{p:Prop}(h:p:=by
 simp only[ao.eY,aD.decl,G0,Mg];cases d<;>exact Iff.rfl
 ):p:=h
theorem Ag{p:Prop}(h:p:=by
 intro x hx;obtain⟨j,bd⟩:=List.getElem?_of_mem hx;simpa using h j x bd
 ):p:=h
theorem Ah{p:Prop}(h:p:=by
 exact lj _ _ _ _ _ (by rw[mC];omega) (by rw[mC];omega)
 ):p:=h
theorem Ai{p:Prop}(h:p:=by
 clear hm;go_wp2;go_ret;exact⟨ret_int (by rw[a3.o];rfl),aw.alloc _⟩
 ):p:=h
theorem Ic{p:Prop}(h:p:=by
 unfold free;rw[decide_eq_true ⟨hm,h0⟩,f,P,z,Bool.true_and]
 ):p:=h
theorem Aj{p:Prop}(h:p:=by
 simp[go_sem];by_cases h:a=c<;>by_cases ap:b=d<;>simp[h,ap]
 ):p:=h
theorem Ak{p:Prop}(h:p:=by
 rw[rA,<-List.append_assoc];exact LU.2 (.inl this)
 ):p:=h
theorem Al{p:Prop}(h:p:=by
 simp only[dg,count_nil,bq,cH,eL];omega
 ):p:=h
theorem Am{p:Prop}(h:p:=by
 rw[aY a3.2.2.2.1,LR,LR];exact bX.1
 ):p:=h
theorem su{p:Prop}(h:p:=by
 obtain⟨bq,am,aG⟩:=(ah.2.2.1.aj bo).two;clear hV bo bR cZ ck;have dG:w+2<V.heap.size:=ad;go_wp2_with(fail);refine(GH P s t fs f ⟨bV,bW,bD,TA,tn,tc,HA,hn,hc⟩ V (cc.2.2.HN G.o (ah.1.trans bS.o)) (λb O=>LL (G.o b O) (ah.1.trans bS.o).size) l.sm dl bN.2.1).mono ?_;rintro e b7 ⟨⟨bh,bJ,aY,ab,m,L,b9,cu,S⟩,O,lb,lc,hx,b0,cE,cG,dW,aH,F1,F2,a4,rfl,a7,dM⟩;have bQ:=ag a7 dM;have cQ:=a7.size;clear a7 dM bq am aG;dsimp only[SV.val];go_upto_region 5 with(fail);generalize hU:World.alloc _ _=U;have cr:=aU hU;have c8:=aI hU;have b6:=bQ.2 U b7 cr c8 (LK _);have dK:=b6.lH;have cl:=b6.gl;have cA:=b6.tl;have bB:=b6.hl;simp only at dK cl cA bB;subst dK;obtain⟨cq,k,flb,J,H,c0,c1,c2,c3,a8⟩:=b6.top;have aT:Ext V U:=bQ.1.trans cr;have dV:=(b6.lo lb (by simp)).1;have ch:=cL b6 aT cl cA bB;have co:t<(cu:Int):=by have:=bN.2.2.2.2;omega
 have dT:((fs.length:Nat):Int)<(lc:Int):=by have:=b6.l.cap;omega
 have dS:fs.length<=lc:=ad;obtain⟨e0,be,a6⟩:=c8.two;clear hU cr c8 b6 aT cl cA bB bQ;go_upto_region 8 with(fail);generalize hX:World.setCell _ _ _=X;have bM:RO P V X {s with threads:=s.threads.set t.toNat (fs++[next f])} t.toNat fs (next f) b7 ⟨bh,bJ,aY,ab,m,L,some ⟨O,0,none⟩,cu,S⟩ O lb lc hx b0 cE cG dW aH F1 F2 a4:=hX▸ch.1.pc (f.pc+1);have b4:=cp hX;have cK:Ext V X:=Fr.low (M:=λb=>b=lb) (Fr.trans (Fr.mono ch.2.1 λ_ h=>h.elim) b4) λb O=>ad;have a2:=bS.trans cK;have aN:=az bM cK a2;have dO:=cK.size;clear hX b4 e0 be a6 c0 c1 c2 c3 H flb J cq k a8;obtain⟨cq,k,flb,J,H,c0,c1,c2,c3,a8⟩:=bM.top;obtain⟨a0,ai,af⟩:=(ah.2.1.aj a2).two;obtain⟨bq,am,aG⟩:=(ah.2.2.1.aj a2).two;obtain⟨d0,aK,aM⟩:=(bF.aj cK).two;obtain⟨e0,be,a6⟩:=bM.o.two;have dU:=(bM.lo b7 (by simp))
 exact sw
 ):p:=h
theorem sx{p:Prop}(h:p:=by
 have l:=ae h;have bN:=cL av bK cC ud nv;have dD:t<(hn:Int):=ad;have cc:=az hu hs dp;obtain⟨G,cz⟩:=aJ bg cw;clear h av cA bK cC ud nv hu hs dp bg cw;dsimp only[UV.val,SV.val];go_enter func40,ntmps40;go_upto_region 1 with(fail);generalize ba:World.alloc _ _=W;have aw:=lD ba;have bI:=jx ba;have bZ:=h6 ba;have cv:=jy ba;have ah:=dm aw bI bZ cv (cc.1.on aw) (cc.2.1.on aw);have cN:=aw.size;have dx:=cv.lt;obtain⟨a0,ai,af⟩:=bI.two;obtain⟨bq,am,aG⟩:=bZ.two;clear ba aw bI bZ cv;go_wp2_with(fail);refine(uM u s t f cn x W ⟨GA,gn,gc,MA,mn,mc,PA,pn,pc⟩ ⟨bV,bW,bD,TA,tn,tc,HA,hn,hc⟩ ⟨l.sm,l.ht,l.hp,l.hx,l.hF.proc,l.pc.1,l.il,l.kl,ah.2.2.2.2.1,ah.2.2.2.2.2⟩).mono ?_;rintro e aS ⟨⟨eo,en,es,EA,em,ec,QA,qm,qc,dn,j,dj,KA,cO,kc⟩,rfl,bE,aO⟩;have ck:=ag bE aO;clear a0 ai af bq am aG bE aO;dsimp only[IV.val];go_upto_region 2 with(fail);generalize hV:World.alloc _ _=V;have bR:=aU hV;have cZ:=aI hV;have bo:Ext W V:=ck.2.trans bR;have ds:=bo.size;have ci:=cZ.lt;have dP:=ck.2.size;have bS:=ae bo;have dy:=ae (ck.1.on bR);have bF:=ae cZ;exact sy
 ):p:=h
theorem lR{p:Prop}(h:p:=by
 intro p ct B a7 bl ps V T ls N S L aw aY QA b1 qc bg aJ aq ba br on bZ bJ cJ bP aQ bK wr bi b2 cg b8 od bn bU bT bA aR cc aH aX bC Q hQ0 hN K hK;intros
 obtain⟨s,wb,sA,bW,bD,sl,GA,gn,gc,MA,mn,mc,FA,fn,fc,M,F,ar⟩:=p;simp only at cJ bi b2 cg;obtain⟨a0,ai,af⟩:=bU.1.blk.two;obtain⟨bq,am,aG⟩:=bU.2.1.two;obtain⟨d0,aK,aM⟩:=bU.2.2.two;conv=>arg 2;whnf
 conv at hK=>enter [a,w,1,2];whnf
 exact lS
 ):p:=h
theorem Ie{p:Prop}(h:p:=by
 refine oH ?_
 iterate 4 refine pf ?_
 refine aB rfl (λK hK=>?_);go_simp;refine(jT ⟨s,wb,sA,bW,bD,sl,GA,gn,gc,MA,mn,mc,FA,fn,fc,M,F,ar⟩ L aJ aq bd ba wr.drew ((bU.1.aj bi Mo.drew).wr bn.1) ((Sl.cZ bn.2.2.2.2.1 (bU.1.aj bi Mo.drew).fr).mono λb O=>⟨O.1,λh=>O.2 (.inl h)⟩) ad).mono ?_;rintro e aS ⟨x,cX,cO,cY,rfl,hx,bv,ck,h,he⟩;simp only at h he;have ak:Fr (λb=>b=s) wr aS:=Fr.aG he;have ab:=bU.2.2.on ak ad;have a3:=gr (bU.1.next bi h ak) ab hx bv ck ak.size (bU.2.1.on ak Z);refine dq hK (he) ?_;clear hK K;clear ab hx bv ck h he ak a0 ai af bq am aG d0 aK aM;refine ax rfl (λK hK=>?_);go_simp
 first
  | rw[j.2,show IntKind.i64.wrap ((i:Nat):Int)=((i:Nat):Int) from IntWalk.i64_in _ ad]
  | rw[j.2]
 refine(cc.2.2 L ad i 3 aJ (T++decls ls) aq bd ba aY ps QA b1 qc bg aS ad ad (a3.1.wr bn.1) (Sl.cZ bn.2.2.2.2.1 a3.1.fr) ad (λk aj=>cc.2.1 k ad) (Sl.cZ bn.2.2.1 a3.1.fr) bK).mono ?_;rintro e aT ⟨aa,aP,m,a4,bF,rfl,ah,cz,cq,an,I⟩;have u:¬(S.heap.size=s\/S.heap.size=wb):=ad;have l:=a3.2.1.on I u;have bc:=a3.2.2.2.2.2.2.on I (λh=>by rcases h with h|h<;>(simp only at h;omega));have dJ:aP<=L:=ah.le;have bt:=gr (a3.1.IG an I) l ah cz cq I bc;clear ah cz cq an I bc;obtain⟨d0,aK,aM⟩:=l.two;clear l;refine dX hK ?_;clear hK K;refine ax rfl (λK hK=>?_);go_simp;refine dX hK ?_;clear hK K;refine pf ?_;refine ax rfl (λK hK=>?_);go_simp;refine dX hK ?_;clear hK K;refine pf ?_;refine ax rfl (λK hK=>?_);go_simp;refine dX hK ?_;clear hK K;refine aF ?_;generalize hX:World.setCell _ _ _=X;have J:Fr (λb=>b=S.heap.size) aT X:=hX▸((((((Fr.refl (λb=>b=S.heap.size) aT).setCell (.inl rfl) _).setCell (.inl rfl) _).setCell (.inl rfl) _).setCell (.inl rfl) _).setCell (.inl rfl) _).setCell (.inl rfl) _;exact An
 ):p:=h
theorem vz{p:Prop}(h:p:=by
 have a3:=ag (ah.2.2.2.1.aj bC.2.2) (ah.1.trans bC.2.2);have cd:=bC.2.2.size;obtain⟨bl,aD,aP⟩:=a3.1.two;obtain⟨e0,be,a6⟩:=bC.2.1.two;go_wp2_with(fail);generalize hX:World.setCell _ _ _=Z;obtain⟨bs,a9,bf⟩:=bA (w:=w) [.slice bh bJ aY,.slice ab m L,.slice (some ⟨O,0,none⟩) cu S,.int .i64 s.fault] (by rfl) a3.1 a3.2 ad hX;have bk:=ag a9 bf;clear hX a9 bf bl aD aP e0 be a6;obtain⟨bl,aD,aP⟩:=bs.two;refine Mn (v:=.tuple #[.agg #[.slice bh bJ aY,.slice ab m L,.slice (some ⟨O,0,none⟩) cu S,.int .i64 s.fault],true]) (by simp[results,Tryz.results40,go_sem,bl]) rfl ?_;exact vA
 ):p:=h
theorem Ao{p:Prop}(h:p:=by
 rintro e aS ⟨rfl,ar⟩;refine dq hK (ar) ?_;clear hK K;refine bs (v:=?_) rfl (by rfl) (λV=>?_) ?_;rotate_left
 .go_simp;exact ez
 try simp only[PU]
 refine bs (v:=?_) rfl (by rfl) (λV=>?_) ?_;rotate_left
 .go_simp;exact ez
 try simp only[PU]
 exact Ap
 ):p:=h
theorem Aq{p:Prop}(h:p:=by
 have bz:=bU.2.2.lt;have R:∀b,wr.heap.size<=b->¬(b=s\/b=wb):=λb O h=>ad;have dG:S<=aS.heap.size:=by have:=a3.2.2.2.2.2.1;omega
 have a8:Sl X (fresh S X) cX cO (x.args.map bm):=(a3.2.2.2.2.1.ai λb O=>(J.block b (lV O.2 bt.2.2.2.2.2.1.size) (by have:=O.1;have:wr.drew.heap.size=wr:=rfl;omega)).trans (bt.2.2.2.2.2.1.block b O.2 (R b O.1))).mono λb O=>⟨by have:=O.1;have:wr.drew.heap.size=wr:=rfl;omega,by have:=O.2;have:=bt.2.2.2.2.2.1.size;have:=J.size;omega⟩
 have b5:Sl X (fresh S X) m a4 (dc (.eY aa)):=by
  exact H9
 have a2:Sl X (λb=>S.heap.size<b/\b<X.heap.size) cX cO (x.args.map bm):=(a3.2.2.2.2.1.ai λb O=>(J.block b (lV O.2 bt.2.2.2.2.2.1.size) (by have:=O.1;have:wr.drew.heap.size=wr:=rfl;omega)).trans (bt.2.2.2.2.2.1.block b O.2 (R b O.1))).mono λb O=>⟨by have:=O.1;have:wr.drew.heap.size=wr:=rfl;omega,by have:=O.2;have:=bt.2.2.2.2.2.1.size;have:=J.size;omega⟩
 have aL:Sl X (λb=>S.heap.size<b/\b<X.heap.size) m a4 (dc (.eY aa)):=by
  exact H8
 have av:=ag a2 aL;clear a2 aL;have H:=bt.1.fresh bn.1 J λb O=>ad;have bu:=bt.2.2.2.2.2.2.on J ad;have aN:=cL H bp bu a8 b5;clear hX d0 aK aM J bp H bu a8 b5;exact Ar
 ):p:=h
theorem vB{p:Prop}(h:p:=by
 go_enter func130,ntmps130;go_upto_region 8 with(fail);generalize ba:World.alloc _ _=W;have aw:=h9 ba;have aV:=gb ba;have a7:=fG ba;have bn:Mw (zB w W g A n c T k deep (r5 0 ⟨#[]⟩ ⟨#[]⟩)):=ae ⟨H.aj aw,aw.mono λ_ h=>h.elim,aV,a7⟩;clear ba aw aV a7;go_wp2_with(fail);refine(show Calls prog 88 #[.pointer (some ⟨g,0,none⟩),.string ⟨#[118,97,114]⟩] W _ from cJ [118,97,114] g A n c T k deep W bn.ps false (by first|exact bN.1|exact fv bN.1 (by decide)) (λh=>by first|omega|cases h)).mono ?_;rintro e aS ⟨rfl,bg,hF⟩;have H1:=ae (bn.on cl (show bI aS g A n c T (k) deep from by simpa using bg) hF);clear bg hF;clear bn;go_wp2_with(fail);exact vC
 ):p:=h
theorem sC{p:Prop}(h:p:=by
 obtain⟨av,dl,cA,fs,bK,ce⟩:=h.th;have hs:=dp.ok bg;obtain⟨GA,gn,gc,MA,mn,mc,PA,pn,pc⟩:=p;obtain⟨bV,bW,bD,TA,tn,tc,HA,hn,hc⟩:=q;have nv:hn=s.threads.length:=by have:=hs.at_.h.1;simpa using this.symm
 have cC:bW=s.globals.length:=by have:=hs.at_.g.1;simpa using this.symm
 have ud:tn=s.table.length:=by have:=hs.at_.t.1;simpa using this.symm
 have dw:hn<=1000:=by have:=h.sm.h;omega
 have dc:=h.pc;exact sD
 ):p:=h
theorem As{p:Prop}(h:p:=by
 rintro r aS ⟨rfl,O⟩;by_cases hm:0<=a9 X e
 case neg=>
  have a3:=ae (show free X T e th=false from p1 ad);have aN:a9 X e<0:=ad;clear hm;exact rk
 obtain⟨k,m,hd,rfl,aj,d,f,P,bo⟩:=hT.at_ hm;rw[P];have a8:k<n2:=by have:=ht.1;omega
 have cz:m<n:=by have:=h.1;omega
 by_cases h0:0<=th
 case neg=>
  have a3:=ae (show free X T k th=false from p1 ad);have j:th<0:=ad;clear h0 d f P;exact rk
 obtain⟨b,o,u,rfl,aB,hx,c0,c1⟩:=(ht.eB O).hold a8;obtain rfl:hd=u:=by rw[d] at hx;injection hx
 obtain⟨K,Q,mx,rfl,l,g,d0,d1,d2⟩:=(h.eB O).I6 cz;have bl:=hT.bound hd (LN d);have z:w3 X m=mx.re:=by unfold w3;rw[Mc,g];rfl
 have cg:free X T k th=(hd.owner == 0 || (hd.owner == th+1 && mx.re)):=by
  exact Ic
 have a3:=ae cg;clear cg hx g d f P hm z;by_cases bn:hd.owner=0
 .have ch:=ae bn;exact Ia
 have b1:(hd.owner == 0)=false:=by simpa using bn
 exact At
 ):p:=h
theorem Au{p:Prop}(h:p:=by
 refine r0 (λb=>b=S.heap.size+1) [14] (.free 0 (.free 1 (.free 2 (.free 6 (.free 7 (.free 8 (.held 9 (.pick [3,10,13] (λi=>bif i == 3 then .held 4 (.free 5 (.pick [10,13] (λi=>bif i == 10 then .free 11 (.free 12 (.pick [13] (λ_=>.pick [14] (λ_=>.stop)))) else .pick [10] (λ_=>.free 11 (.free 12 (.pick [14] (λ_=>.stop))))))) else bif i == 10 then .free 11 (.pick [3,13] (λi=>bif i == 3 then .held 4 (.free 5 (.free 12 (.pick [13] (λ_=>.pick [14] (λ_=>.stop))))) else .pick [3] (λ_=>.held 4 (.free 5 (.free 12 (.pick [14] (λ_=>.stop))))))) else .pick [3,10] (λi=>bif i == 3 then .held 4 (.free 5 (.pick [10] (λ_=>.free 11 (.free 12 (.pick [14] (λ_=>.stop)))))) else .free 11 (.pick [3] (λ_=>.held 4 (.free 5 (.free 12 (.pick [14] (λ_=>.stop)))))))))))))))) ?_
 iterate 6 refine tf ?_
 refine oI ?_;clear a0 ai af;exact Av
 ):p:=h
theorem Aw{p:Prop}(h:p:=by
 rintro e b7 ⟨⟨bg,bJ,aY,a1,m,L,a4,cu,S⟩,rfl,ca,a7⟩;have da:=ae ca;have cE:=(ah.2.2.2.2.1.aj bB.o).aj a7;have a3:=ag cE ((ah.1.trans bB.o).trans a7);clear ca a7 bq am aG d0 aK aM;obtain⟨bl,aD,aP⟩:=cE.two;clear cE;go_wp2_with(fail);generalize hX:World.setCell _ _ _=Z;exact Ax
 ):p:=h
theorem sE{p:Prop}(h:p:=by
 refine ax rfl (λK hK=>?_);go_simp;refine dX hK ?_;clear hK K;refine pf ?_;refine ax rfl (λK hK=>?_);go_simp;refine dX hK ?_;clear hK K;exact sF
 ):p:=h
theorem eS{p:Prop}(h:p:=by
 refine ax rfl (λK hK=>?_);go_simp;refine dX hK ?_;clear hK K;refine aF ?_;exact dC
 ):p:=h
theorem Ay{p:Prop}(h:p:=by
 go_wp2_with(fail);refine(show Calls prog 129 #[.pointer (some ⟨g,0,none⟩),.string ⟨#[40]⟩] w _ from kb [40] g A n c T k deep w H.o bN.1 ad).mono ?_;rintro e aS ⟨rfl,bg,hF⟩;have H1:=ag bg hF;clear bg hF;go_wp2_with(fail);refine(show Calls prog 88 #[.pointer (some ⟨g,0,none⟩),.string ⟨#[41]⟩] aS _ from cJ [41] g A n c T (k+1) deep aS H1.1 false bN.2.1 (λh=>by cases h)).mono ?_;rintro e aT ⟨rfl,bg,hF⟩;have bc:=ag (show bI aT g A n c T (k+1) deep from by simpa using bg) (H1.2.trans hF);clear bg hF H1;go_wp2_with(fail);generalize hN:r.length=N at *;exact Az
 ):p:=h
theorem py{p:Prop}(h:p:=by
 obtain⟨I,b4,aE,e,aC,hs⟩:=aZ.1 a5;simp only[List.cons.injEq,Value.int.injEq,Value.string.injEq,Value.slice.injEq,and_true,true_and] at e;obtain⟨rfl,rfl,rfl,rfl,rfl,rfl⟩:=e;exact pz
 ):p:=h
theorem gR{p:Prop}(h:p:=by
 obtain⟨GA,gn,gc,MA,mn,mc,PA,pn,pc⟩:=p;obtain⟨bV,bW,bD,TA,tn,tc,HA,hn,hc⟩:=q;exact gS
 ):p:=h
theorem AA{p:Prop}(h:p:=by
 have aw:Ext w (w.alloc (.cells #[false,i,.slice (some ⟨b,o,none⟩) 1 pc] 119)):=Mo.alloc _;have c:au (w.alloc (.cells #[false,i,.slice (some ⟨b,o,none⟩) 1 pc] 119)) w 119 #[false,i,.slice (some ⟨b,o,none⟩) 1 pc]:=Mp;obtain⟨ar,F,cQ,hm,T,e0,e1,e2,e3⟩:=h;obtain⟨hv,bQ,b4,rfl,bz,aN,f0,f1,f2⟩:=F.Ki cQ;have P:b4=m:=by rw[hm] at aN;injection aN with h;exact h.symm
 subst P;exact AB
 ):p:=h
theorem AD{p:Prop}(h:p:=by
 have bv:=a3.2.2.2.2;have y:=a3.2.2.1.dr bj.size λb O hp=>bj.block b O λhm=>by
  exact Ib
 have F:bI Y g A n c T (k+1+3*j+2) deep:=P.1.on bx λb O=>ad;have bC:=ae (And.intro F (And.intro (Fr.mono (M':=λb=>b=g\/w.heap.size<=b) (Fr.trans (a3.2.1.mono λ_ h=>.inl h) (bj.mono λb O=>O)) λb O=>by
  rcases O with O|O
  .exact .inl O
  .exact .inr ad) (And.intro y bH)))
 obtain⟨cK,aG,aK⟩:=bH.two;exact AE
 ):p:=h
theorem vD{p:Prop}(h:p:=by
 have d0:=a4 0 _ rfl;have d1:=a4 1 _ rfl;have d2:=a4 2 _ rfl;have d3:=a4 3 _ rfl;have d4:=a4 4 _ rfl;have d5:=a4 5 _ rfl;have d6:=a4 6 _ rfl;have d7:=a4 7 _ rfl;have d8:=a4 8 _ rfl;have d9:=a4 9 _ rfl;have d10:=a4 10 _ rfl;simp only[LW] at d0;exact vE
 ):p:=h
theorem sG{p:Prop}(h:p:=by
 obtain⟨c5,c6,de,rfl,c9,c4⟩:=aZ.1 bR;have c0:=a4 0 _ rfl;have c1:=a4 1 _ rfl;have c2:=a4 2 _ rfl;have c3:=a4 3 _ rfl;simp only[LW] at c0;have a1:b<wr:=O;exact sH
 ):p:=h
theorem fQ{p:Prop}(h:p:=by
 refine av ?_;refine bR rfl (λK hK=>?_) rfl;go_simp;refine dX hK ?_;clear hK K;exact fy
 ):p:=h
theorem AF{p:Prop}(h:p:=by
 go_upto_region 1 with(fail);generalize ba:World.alloc _ _=W;have aw:=lD ba;have bZ:=jx ba;have ck:=h6 ba;have a5:=jy ba;have ah:=gr aw bZ ck a5 (hu.on aw) (hs.on aw) (D.on bK (Fr.ext aw));have r:=hT.on aw;obtain⟨a0,ai,af⟩:=bZ.two;obtain⟨bq,am,aG⟩:=ck.two;obtain⟨d0,aK,aM⟩:=a5.two;have aa:=ae r;clear ba aw bZ ck a5 r hT hu hs bK b1 hS hU ht hp hx hF Y o;go_wp2_with(fail);exact AG
 ):p:=h
theorem AH{p:Prop}(h:p:=by
 clear hX d0 aK aM HA;go_wp2_with(fail);refine(show Calls prog 129 #[.pointer (some ⟨g,0,none⟩),.string ⟨#[59]⟩] X _ from kb [59] g A n c T (k+1+1) deep X aN.ps bN.2.2.2.2 ad).mono ?_;rintro e cv ⟨rfl,bg,hF⟩;have bk:=ae (aN.on cl bg hF);clear bg hF aN;obtain⟨d0,aK,aM⟩:=bk.s.two;obtain⟨bl,aD,aP⟩:=bk.r.two;simp only[r5] at d0;go_wp2_with(fail);generalize hX:World.setCell _ _ _=V;exact AI
 ):p:=h
theorem AJ{p:Prop}(h:p:=by
 go_upto_region 1 with(fail);generalize ba:World.alloc _ _=W;have aw:=h9 ba;have bI:=gb ba;have bZ:=fG ba;have ah:=az aw bI bZ;obtain⟨a0,ai,af⟩:=bI.two;obtain⟨bq,am,aG⟩:=bZ.two;clear ba aw bI bZ;by_cases e1:¬bW=gn
 .have b9:((bW:Int) != (gn:Int))=true:=by simp;omega
  exact Hy
 have b9:((bW:Int) != (gn:Int))=false:=by simp;omega
 have bf:=ae e1;clear e1;exact AK
 ):p:=h
theorem AL{p:Prop}(h:p:=by
 clear aL;have du:=cj.size;go_wp2_with(fail);refine(pa P s ⟨bV,bW,bD,TA,tn,tc,HA,hn,hc⟩ z cS (cc.2.2.HN G.o (ah.1.trans cj.o)) (λb O=>LL (G.o b O) (ah.1.trans cj.o).size)).mono ?_;rintro e c6 ⟨⟨cT,bL,bX,bt,b8,bv,bU,aZ,cb⟩,rfl,ca,bP⟩;have fg:=bP.size;have da:=ae ca;have a3:=ag (ah.2.2.2.1.aj (cj.trans bP)) ((ah.1.trans cj.o).trans bP);exact AM
 ):p:=h
theorem AN{p:Prop}(h:p:=by
 obtain⟨n,nm,b,o,c,ci,aK,a4,E,cK,cp,cX,bx,T,O,hx,bb,e0,e1,e2,e3,be,co,bD,e7⟩:=h.rep;injection T with h0 T;injection T with ac T;injection T with ap T;injection T with aV T;subst h0 ac ap aV;clear T;have cw:=h.ok.1;have a6:lO w G L ng nl g l x [ci,aK,a4,E]:=⟨h.gs,h.ls,h.ok.2.1,hx⟩
 have j:lO w G L ng nl g l y [cK,cp,cX,bx]:=⟨h.gs,h.ls,h.ok.2.2,bb⟩
 exact AO
 ):p:=h
theorem vF{p:Prop}(h:p:=by
 have aR:=h.g;have hm:=h.m;have J:=h.f;have dx:p.globals.length=gn:=by rw[<-aR.1,LO]
 have lm:p.af.length=mn:=by rw[<-hm.1,LO]
 have lf:p.funcs.length=fn:=by rw[<-J.1,LO]
 exact vG
 ):p:=h
theorem Ig{p:Prop}(h:p:=by
 generalize co:World.setCell _ _ _=Y;obtain⟨bH,bG,bx⟩:=ei (M:=λb=>b=s) [.int .i64 x.bf,.int .i64 x.numOf,.string x.bu,.slice cX cO cY] (by rfl) b9.o bc.2 (LK _) co;obtain⟨bl,aD,aP⟩:=bH.two;exact AP
 ):p:=h
theorem AQ{p:Prop}(h:p:=by
 refine(show Calls prog 88 #[.pointer (some ⟨g,0,none⟩),.string ⟨#[103,111]⟩] aS _ from cJ [103,111] g A n c T k deep aS H1.ps false (by first|exact bN.1|exact fv bN.1 (by decide)) (λh=>by first|omega|cases h)).mono ?_;rintro e aT ⟨rfl,bg,hF⟩;have bc:=ae (H1.on cl (show bI aT g A n c T (k) deep from by simpa using bg) hF);clear bg hF;clear H1;go_wp2_with(fail);exact AR
 ):p:=h
theorem AS{p:Prop}(h:p:=by
 rintro e aS ⟨rfl,bg,hF⟩;have H1:=az bg (Fr.trans (ah.2.1.mono λ_ h=>h.elim) hF) (ah.2.2.on hF ad);have av:w<aS.heap.size:=H1.2.2.lt;clear bg hF;go_upto_region 2 with(fail);generalize hX:World.alloc _ _=X;have aw:=aU hX;have cv:=aI hX;have aN:=bF (H1.1.aj aw) (H1.2.1.trans (aw.mono λ_ h=>h.elim)) (H1.2.2.aj aw) cv;clear hX aw cv H1 ah;go_wp2_with(fail);exact AT
 ):p:=h
theorem vH{p:Prop}(h:p:=by
 have a3:=ae (show decide (S=T)=false from decide_eq_false (λh=>bi (by rw[<-hl,<-bc,h])));have v:(n != n2)=true:=by simpa using bi
 have f:((n:Int) != (n2:Int))=true:=by simp;omega
 clear hl bc bi;exact vI
 ):p:=h
theorem AU{p:Prop}(h:p:=by
 have br:=ae (show ev g l (.bin op x y)=if (ev g l x).2≠0 then (0,(ev g l x).2) else if op=16/\(ev g l x).1=0 then (0,0) else if op=17/\(ev g l x).1≠0 then (1,0) else if (ev g l y).2≠0 then (0,(ev g l y).2) else if op=16\/op=17 then (fx ((ev g l y).1 != 0),0) else arith op (ev g l x).1 (ev g l y).1 from rfl);generalize ev g l x=r1 at *;obtain⟨v1,f1⟩:=r1;exact AV
 ):p:=h
theorem AW{p:Prop}(h:p:=by
 go_upto_region 1 with(fail);generalize ba:World.alloc _ _=W;have aw:=Jm ba;have bZ:=G7 ba;have ck:=G8 ba;have a5:=G9 ba;have cv:=Ha ba;have ah:=px aw bZ ck a5 cv (cc.1.on aw) (cc.2.1.on aw) (cc.2.2.on aw);obtain⟨a0,ai,af⟩:=bZ.two;obtain⟨bq,am,aG⟩:=ck.two;obtain⟨d0,aK,aM⟩:=a5.two;clear ba aw bZ ck a5 cv cc;go_wp2_with(fail);exact AX
 ):p:=h
theorem AY{p:Prop}(h:p:=by
 obtain⟨j,D,l,rfl,bd,bg,hF,hG⟩:=hrel;obtain⟨t,ht⟩:∃t,r[j]?=some t:=⟨_,List.getElem?_eq_getElem ad⟩
 obtain⟨dd,b9,J⟩:=bg.blk.two;have od:=hF.size;have cx:g<wr:=bg.blk.lt;have bv:∀b,(Value.slice D j l).ownBlock=some b->w.heap.size<=b/\b<wr.heap.size:=λb O=>hG.lt O;have a3:=cL bg hF hG ht bv;exact AZ
 ):p:=h
theorem A0{p:Prop}(h:p:=by
 have bT:(hd.owner == 0)=false:=by simpa using f1
 by_cases f2:hd.depth=0
 .have g2:(hd.depth == 0)=true:=by simpa using f2
  exact vR
 have g2:(hd.depth == 0)=false:=by simpa using f2
 by_cases be:hd.depth<0
 .have a3:=ae (d.o (by unfold dj;simp[be]));exact tJ
 exact A1
 ):p:=h
theorem A3{p:Prop}(h:p:=by
 refine r0 (λ_=>False) [6,11] (.free 0 (.free 1 (.free 2 (.held 3 (.free 4 (.held 5 (.pick [6,10] (λi=>bif i == 6 then .free 7 (.free 8 (.free 9 (.pick [10] (λ_=>.pick [11] (λ_=>.free 12 (.stop)))))) else .pick [6] (λ_=>.free 7 (.free 8 (.free 9 (.pick [11] (λ_=>.free 12 (.stop)))))))))))))) ?_
 iterate 3 refine tf ?_
 refine th ?_;refine tf ?_;refine th ?_;exact A4
 ):p:=h
theorem A5{p:Prop}(h:p:=by
 have bC:0<=a9 X (k:Int):=ma ad (ay E.o);obtain⟨i,t,aX,P,_⟩:=mN bC;have a6:i<n:=by have:=(List.getElem?_eq_some_iff.1 P).1;have:=D.o;omega
 have z:w3 X (a9 X (k:Int))=t.re:=by rw[aX];unfold w3;rw[Mc,P];rfl
 obtain⟨m,b5,aa⟩:=ef z aX P;clear z aX P bC;exact A6
 ):p:=h
theorem lT{p:Prop}(h:p:=by
 go_upto_region 1 with(fail);generalize ba:World.alloc _ _=W;have aw:=h9 ba;have aQ:=gb ba;have cv:=fG ba;exact lU
 ):p:=h
theorem A7{p:Prop}(h:p:=by
 have k:=λaL=>Ej (s:=s) (nl:=cn.locals) (nk:=f.an.length) aN.1 aN.2.2.1 (Int.le_refl _) aN.2.2.2.2.2 j aL;have Q:=yI (u:=u) (s:=s) (f:=f) j;have m:=pQ (u:=u) (s:=s) (f:=f) j;generalize cV u s f pl=R at *;obtain⟨v,z⟩:=R;simp only at k Q m;have bt:=az k Q m;exact A8
 ):p:=h
theorem A9{p:Prop}(h:p:=by
 go_upto_region 1 with(fail);generalize ba:World.alloc _ _=W;have aw:=aU ba;have aQ:au W w 117 #[(0:Int),(0:Int),Mq,()]:=ba▸au.gX _ _ _ rfl;have ah:=bF (H.1.aj aw) (H.2.aj aw) (aw.mono (M':=λb=>b=s) λ_ h=>h.elim) aQ;obtain⟨a0,ai,af⟩:=ah.1.blk.two;clear ba aw aQ H;exact Ba
 ):p:=h
theorem Bb{p:Prop}(h:p:=by
 have bc:=ht.1;have aZ:n2<=5000:=by have:=cm hX;have:=hT.len;omega
 have bJ:=fj X T e th;have hlen:(n2:Int)=elems X:=by rw[<-dU,<-hT.len,bc]
 generalize aQ:c5 X T e th=L at *;obtain⟨b9,bX⟩:=aJ aQ hlen;clear aQ hlen;rw[bc] at bJ;have H:=ae bJ;clear bJ;exact Bc
 ):p:=h
theorem Bd{p:Prop}(h:p:=by
 have o:ct<X:=LL Z bu.size;clear hX bu bp;go_upto_region 7 with(fail);generalize co:World.alloc _ _=Y;have bG:=aU co;have bH:=aI co;have bC:=ae (aN.1.trans bG);obtain⟨ci,bO,b5⟩:=(aN.2.aj bG).two;obtain⟨cK,aG,aK⟩:=bH.two;clear co bG bH;go_wp2_with(fail);exact Be
 ):p:=h
theorem Bf{p:Prop}(h:p:=by
 have aN:=ae hx;have d:Mw (dj X th k hd=false->fk X T th=false):=ae λac=>xw aN.o ac;clear hx;by_cases e1:hd.owner<0
 .have a3:=ae (d.o (by unfold dj;simp[e1]));exact tJ
 by_cases e2:th<hd.owner
 .have a3:=ae (d.o (by unfold dj;simp[e2]));exact tJ
 exact Bg
 ):p:=h
theorem pA{p:Prop}(h:p:=by
 try refine hN _ _ ?_
 unfold lQ;refine⟨aq,bd,ba,br,on,bZ,?_⟩
 iterate 240 apply Exists.intro
 refine⟨?_,rfl⟩;exact pB
 ):p:=h
theorem Bh{p:Prop}(h:p:=by
 try simp only[PU]
 refine dz rfl (by rfl) ?_
 try simp only[PU]
 refine dz rfl (by rfl) ?_
 try simp only[PU]
 refine dz rfl (by rfl) ?_
 try simp only[PU]
 refine iv rfl (by rfl) ?_
 try simp only[PU]
 refine dz rfl (by rfl) ?_
 try simp only[PU]
 refine iv rfl (by rfl) ?_
 try simp only[PU]
 exact Bi
 ):p:=h
theorem Bj{p:Prop}(h:p:=by
 generalize hV:World.alloc _ _=V;have L:=aU hV;have bB:=ae (br.trans L);have G:=ae (b9.aj L);have hC:=aI hV;have bU:=ae hC;have b7:=ae (bO.on (Fr.ext L));have dr:=ae (bl.on (Fr.ext L));clear hV a0 ai af c0 c1 c2 a1 br b9 L bO bl;obtain⟨a0,ai,af⟩:=hC.two;clear hC;exact Bk
 ):p:=h
theorem Bl{p:Prop}(h:p:=by
 obtain⟨len,hlen,aX⟩:=h.ok;have hx:(∃e,x.expr=some e/\gw (bx u) cn.locals e)/\0<=x.target/\(x.op=1->x.dv=true->x.target<u.globals.length)/\(x.op=1->x.dv=false->x.target<f.ints.length):=by
  exact Jo
 obtain⟨⟨ex,hex,aE⟩,dz,cH,aW⟩:=hx;exact Bm
 ):p:=h
theorem Bn{p:Prop}(h:p:=by
 obtain⟨n,nm,b,o,c,ci,aK,a4,E,T,O,hx,e0,e1,e2,e3⟩:=h.rep;injection T with h0 T;injection T with ac T;injection T with ap T;injection T with aV T;subst h0 ac ap aV;clear T;have cw:=h.ok.1;have a6:lO w G L ng nl g l x [ci,aK,a4,E]:=⟨h.gs,h.ls,h.ok.2,hx⟩
 exact Bo
 ):p:=h
theorem vJ{p:Prop}(h:p:=by
 unfold eU at h;rw[bN,fD] at h;obtain⟨y,rfl,h⟩:=h;obtain⟨x,cX,rfl,hx,bb⟩:=dL.1 h;unfold gj at hx;rw[bN,cu] at hx;obtain⟨z,rfl,hx⟩:=hx;exact vK
 ):p:=h
theorem Bp{p:Prop}(h:p:=by
 have dg:=bh 0 _ rfl;simp only[LW] at dg;have cx:=bh 1 _ rfl;have bY:=bh 2 _ rfl;have b9:=bh 3 _ rfl;have H:=bh 4 _ rfl;have cf:=bh 5 _ rfl;have cR:=bh 6 _ rfl;have dO:=bh 7 _ rfl;have ce:=bh 8 _ rfl;have cg:=bh 9 _ rfl;have b5:=bh 10 _ rfl;have ca:=bh 11 _ rfl;exact Bq
 ):p:=h
theorem sI{p:Prop}(h:p:=by
 have c8:gn<=16:=by have:=hp.oj;omega
 have aZ:mn<=12:=by have:=hp.wP;omega
 have dL:fn<=16:=by have:=hp.E0;omega
 exact sJ
 ):p:=h
theorem Br{p:Prop}(h:p:=by
 obtain⟨hM,J,hG⟩:=h.own hX;obtain⟨GA,gn,gc,MA,mn,mc,FA,fn,fc,aQ,cx,bY,b9,H⟩:=h.blk;refine⟨⟨⟨GA,gn,gc,MA,mn,mc,FA,fn,fc,?_,cx,bY,b9.cT hM,H.cT hM⟩,⟨h.base.1,L6 h.base.2 hM.fr.size⟩,⟨h.names.1,h.names.2.cT hM⟩,hG⟩,hM⟩;exact Bs
 ):p:=h
theorem Bt{p:Prop}(h:p:=by
 by_cases aV:0<=th
 case neg=>
  have J:heldBy X T k th=false:=j5 ad;have b6:=ae (no J);have b3:=ae J;have l:th<0:=ad;clear aV no J bc d f P hm;go_wp2
  go_ret2
  exact rl
 have bl:=hT.bound hd (LN d);exact Bu
 ):p:=h
theorem Bv{p:Prop}(h:p:=by
 have cd:=ae (show ev g l (.bin op x y)=if (ev g l y).2≠0 then (0,(ev g l y).2) else if op=16\/op=17 then (fx ((ev g l y).1 != 0),0) else arith op v1 (ev g l y).1 by rw[br.o];simp only[bw.o,ne_eq,not_true_eq_false,if_false];rw[if_neg aZ,if_neg bn]);exact Bw
 ):p:=h
theorem Bx{p:Prop}(h:p:=by
 have aA:(0:Int)<(d:Int):=ad;obtain⟨i,aI⟩:∃i,d=i+1:=⟨d - 1,ad⟩
 have aC:(d:Int) - 1=((i:Nat):Int):=ad;have bo:i<=1:=ad;have j:=ag aI aC;clear aI aC;have gU:¬wb=s:=ad;have Z:¬ct=s:=ad;exact By
 ):p:=h
theorem Bz{p:Prop}(h:p:=by
 have bk:=ae a9;clear hX a9 bf bl aD aP bq am aG;obtain⟨bl,aD,aP⟩:=bs.two;refine Mn (v:=.tuple #[.agg #[.slice bV bW bD,.slice TA tn tc,.slice HA hn hc,.int .i64 s.fault],false]) (by simp[results,Tryz.results40,go_sem,bl]) rfl ?_;exact BA
 ):p:=h
theorem BB{p:Prop}(h:p:=by
 have h0:∃y,DataW.trod enc prog w base spare held m 3 [c0]=some y:=by
  have e:=sS;have:=J 0 _ rfl;exact tK
 have ac:∃y,DataW.trod enc prog w base spare held m 3 [c1]=some y:=by
  have e:=sS;have:=J 1 _ rfl;exact tK
 exact BC
 ):p:=h
theorem vL{p:Prop}(h:p:=by
 have a3:b0.length=fs.length*4:=by rw[D.hy _ _ h.fr,D.g7 (z:=4) (λd hd=>by obtain⟨x,_,rfl⟩:=Mf.1 hd;rfl),LO]
 exact vM
 ):p:=h
theorem BD{p:Prop}(h:p:=by
 obtain⟨O,bn,cm,da,n,fc,IA,i,ic,bw,l,lc,e,hT⟩:=hs.at_.top b1 ht;simp only at e;subst e;obtain⟨hF,_,_⟩:=hS.top ht;have Y:=hF.s6 hp;have o:c4 (bx u) cn.locals f.an.length pl:=by rw[Y];exact hx
 rw[iD ht];exact BE
 ):p:=h
theorem BF{p:Prop}(h:p:=by
 refine eJ (λ_=>False) [(0,3),(1,0),(2,3),(3,3),(4,3),(5,3),(6,3),(7,3),(8,3),(9,3),(10,2)] ?_;refine pf ?_;refine ph ?_
 iterate 5 refine pf ?_
 rw[show IntKind.i64.wrap ((fs.length:Nat):Int)=(fs.length:Int) from IntWalk.i64_in _ ad];exact BG
 ):p:=h
theorem BH{p:Prop}(h:p:=by
 have aR:S.grownBy ab (Value.slice A n c).ownBlock:=⟨b9.os,b9.tape,b9.output,by have:=b9.size;simp at this;omega,λk aj bi=>(b9.block k (by simp;omega) bi).trans (Below.heap_alloc S _ k aj)⟩
 obtain⟨I,aE,rfl,hc,_⟩:=bT bY;exact BI
 ):p:=h
theorem vN{p:Prop}(h:p:=by
 refine eu ?_;refine av ?_;refine bR rfl (λK hK=>?_) rfl;go_simp;generalize hV:World.alloc _ _=V;have aQ:=aI hV;have bo:=aU hV;clear hV;exact vO
 ):p:=h
theorem BJ{p:Prop}(h:p:=by
 rintro e b7 ⟨z,rfl,r,a7⟩;refine dq hK (a7) ?_;clear hK K
 iterate 3 refine tf ?_
 refine av ?_;refine eu ?_;generalize cG:World.alloc _ _=Z;have e2:=aU cG;have aQ:=aI cG;have s2:=aW.size;have dN:=a7.size;have eF:=e2.size;exact BL
 ):p:=h
theorem vP{p:Prop}(h:p:=by
 clear a0 ai af bq am aG b0;obtain⟨a0,ai,af⟩:=(ah.2.1.aj aO).two;obtain⟨bq,am,aG⟩:=(ah.2.2.aj aO).two;exact sK
 ):p:=h
theorem BM{p:Prop}(h:p:=by
 have d0:=(f.cell (p:=⟨b,o,none⟩) O).trans e0;have d1:=(f.cell (p:=⟨b,o+1,none⟩) O).trans e1;have d2:=(f.cell (p:=⟨b,o+2,none⟩) O).trans e2;have d3:=(f.cell (p:=⟨b,o+3,none⟩) O).trans e3;exact BN
 ):p:=h
theorem BO{p:Prop}(h:p:=by
 go_wp2;refine eJ (λ_=>False) [(0,3),(1,3),(2,3),(3,3),(4,0),(8,3),(9,0),(10,3),(11,3),(14,3),(5,1),(6,3),(7,3),(12,2),(13,3),(15,3),(16,3),(17,3)] ?_
 iterate 2 refine pf ?_
 refine bs (v:=?_) rfl (by rfl) (λV=>?_) ?_;rotate_left
 .go_simp;exact ez
 try simp only[PU]
 refine pf ?_;refine ph ?_;refine pf ?_;refine ph ?_;refine pf ?_;refine bs (v:=?_) rfl (by rfl) (λV=>?_) ?_;rotate_left
 .go_simp;exact ez
 try simp only[PU]
 refine pf ?_;refine aB rfl (λK hK=>?_);go_simp;refine(aN.o _ _ _ _ _ _ _ (D.on bv.o (Fr.ext Mo.drew)) f.o).mono ?_;rintro e aS ⟨rfl,ar⟩;refine dq hK (ar) ?_;clear hK K;refine bs (v:=?_) rfl (by rfl) (λV=>?_) ?_;rotate_left
 .go_simp;exact ez
 try simp only[PU]
 refine bs (v:=?_) rfl (by rfl) (λV=>?_) ?_;rotate_left
 .go_simp;exact ez
 try simp only[PU]
 refine ax rfl (λK hK=>?_);go_simp;rw[q.o];refine((show hJ th from az.th) (t+1) A2 n2 c2 _ J.o (ag.on (Fr.ext (Fr.aG ar))) H.o).mono ?_;rintro e aT ⟨rfl,bJ⟩;refine dX hK ?_;clear hK K;refine bs (v:=?_) rfl (by rfl) (λV=>?_) ?_;rotate_left
 .go_simp;exact ez
 try simp only[PU]
 refine bs (v:=?_) rfl (by rfl) (λV=>?_) ?_;rotate_left
 .go_simp;exact ez
 try simp only[PU]
 refine bs (v:=?_) rfl (by rfl) (λV=>?_) ?_;rotate_left
 .go_simp;exact ez
 try simp only[PU]
 refine pf ?_;refine aF ?_;have bB:=ae ((Fr.aG ar).trans bJ);obtain⟨v0,ak⟩:=Fr.qO bB.o;clear ar bJ;exact xJ
 ):p:=h
theorem BP{p:Prop}(h:p:=by
 rintro e aS ⟨rfl,ar⟩;refine dq hK (ar) ?_;clear hK K;refine bs (v:=?_) rfl (by rfl) (λV=>?_) ?_;rotate_left
 .go_simp;exact ez
 try simp only[PU]
 refine bs (v:=?_) rfl (by rfl) (λV=>?_) ?_;rotate_left
 .go_simp;exact ez
 try simp only[PU]
 exact B5
 ):p:=h
theorem vQ{p:Prop}(h:p:=by
 go_wp2;go_roundw
 case rel=>
  refine⟨k+1,ad,by go_num,λj u bd g=>?_,a1.alloc cv _,s.alloc G _⟩;exact DT
 case measure=>exact aH
 ):p:=h
theorem BQ{p:Prop}(h:p:=by
 go_wp2_with(fail);generalize hX:World.setCell _ _ _=X;obtain⟨bp,bu,cE⟩:=bA (w:=w) [(0:Int),(0:Int),(),()] (by rfl) br.2 br.1 ad hX;have aN:=ae bu;clear hX bu cE a0 ai af bl aD aP aZ;exact Jn
 ):p:=h
theorem BR{p:Prop}(h:p:=by
 obtain⟨bl,aD,aP⟩:=bp.two;refine Mn (v:=.tuple #[.agg #[(0:Int),(0:Int),(),()],false]) (by simp[results,Tryz.results123,go_sem,bl]) rfl ?_;exact⟨rfl,aN.o⟩
 ):p:=h
theorem BS{p:Prop}(h:p:=by
 rw[b3.o];exact fu (B:=V.heap.size) bC.1 bk.2 (λb O=>⟨λhl=>by have:=G.o b hl;omega,ad⟩) (λb O=>by have:=G.o b O;omega) ad bk.1 (by rw[et bN.2.1])
 ):p:=h
theorem BU{p:Prop}(h:p:=by
 refine eJ (λ_=>False) [(0,3),(1,3),(2,3),(3,0),(4,3),(5,0),(6,3),(7,3),(8,2)] ?_
 iterate 3 refine pf ?_
 refine ph ?_;refine pf ?_;refine ph ?_
 iterate 2 refine pf ?_
 exact eS
 ):p:=h
theorem BV{p:Prop}(h:p:=by
 refine eJ (λb=>b=s) [(0,3),(1,3),(3,3),(4,0),(5,3),(6,3),(7,3),(9,3),(2,1),(8,2),(10,2),(11,3),(12,2),(13,3),(14,2)] ?_
 iterate 3 refine pf ?_
 exact Ie
 ):p:=h
theorem vR{p:Prop}(h:p:=by
 have a3:=ae (d.o (by unfold dj;rw[bT,g2];simp));clear f1 f2;exact tJ
 ):p:=h
theorem BW{p:Prop}(h:p:=by
 go_wp2;go_roundw
 case rel=>
  refine⟨k+1,ad,by go_num,λj u bd g=>?_,a1.alloc cv _⟩;exact DT
 case measure=>exact aH
 ):p:=h
theorem BX{p:Prop}(h:p:=by
 go_wp2_with(fail);refine(aN.o rs cM di rc W ct.o f.o).mono ?_;rintro e aS ⟨rfl,ar⟩;have bB:=ae ar;clear ar;exact xJ
 ):p:=h
theorem sL{p:Prop}(h:p:=by
 refine dX hK ?_;clear hK K;refine pf ?_;exact eS
 ):p:=h
theorem BY{p:Prop}(h:p:=by
 obtain⟨e0,be,a6⟩:=aQ.two;have b9:=ae aQ;clear a0 ai af h he aQ hx bv ck;go_wp2_with(fail);exact Ig
 ):p:=h
theorem BZ{p:Prop}(h:p:=by
 rintro e aS ⟨rfl,b0⟩;have aO:Ext W aS:=Fr.of b0;have H1:=ag aO (ah.1.trans aO);exact vP
 ):p:=h
theorem B0{p:Prop}(h:p:=by
 go_wp2;go_roundw
 case rel=>exact⟨k+1,ad,by go_num,a8.o,bz.o⟩
 case measure=>exact aH
 ):p:=h
theorem B1{p:Prop}(h:p:=by
 rintro a3 aC j cP ⟨aA,ak,ao,gz,bd⟩;obtain⟨ci,bO,b5⟩:=ao.two;exact fQ
 ):p:=h
theorem B2{p:Prop}(h:p:=by
 by_cases ag:j<k
 .exact aD.o j ag
 .obtain rfl:j=k:=ad;exact aN.o
 ):p:=h
theorem B3{p:Prop}(h:p:=by
 have dZ:O<cV:=ad
 iterate 2 refine pf ?_
 exact eS
 ):p:=h
theorem B4{p:Prop}(h:p:=by
 refine ph ?_;refine bs (v:=?_) rfl (by rfl) (λV=>?_) ?_;rotate_left
 .go_simp;exact ez
 try simp only[PU]
 refine pf ?_;refine ph ?_;refine aB rfl (λK hK=>?_);go_simp;refine(aN.o cR n1 c1 _ (Q.on (Fr.ext Mo.drew)) f.o Y.o).mono ?_;exact BP
 ):p:=h
theorem B5{p:Prop}(h:p:=by
 refine pf ?_;refine aF ?_;have bB:=ae (Fr.aG ar);clear ar;exact xJ
 ):p:=h
end Go.Proofs.YtpkfopfkdgkfkaaGreat
