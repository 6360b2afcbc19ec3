/- Part 1 of the proof. No condition of its own. -/
import Derived.BigQuiet
import Derived.Deep.Cut
import Derived.Deep.DrawnRows
import Derived.Deep.Draws
import Derived.Deep.QuietTactic
import Derived.Deep.RegionHeld3
import Derived.Handy
import Derived.IntWalk
import Derived.Laws.CopyOwn
import Derived.Laws.IdiomStrings
import Derived.Laws.StructEq
import Derived.Lib.Bytes
import Derived.Lib.SlBytesRow
import Derived.Maps.AppendAt
import Derived.OrdersHeld
import Derived.RegionTactic
import Derived.StillTail
import Derived.Test.YtglbpimocmhojaaGreatRows
import Derived.WalkKit
import Derived.WalkLawsBesides
import Derived.WalkSpells
import Derived.Test.YtglbpimocmhojaaGreatQ00
namespace Go.Proofs.YtglbpimocmhojaaGreat
open Go.RowKit Go.Proofs.Tryz
set_option maxRecDepth 1000000
set_option maxHeartbeats 25600000
set_option linter.unusedVariables false
theorem KD:type_of% @Nat.le_refl:=@Nat.le_refl
theorem KE:type_of% @Nat.lt_of_lt_of_le:=@Nat.lt_of_lt_of_le
theorem KF:type_of% @List.length_append:=@List.length_append
theorem KG:type_of% @List.mem_of_getElem?:=@List.mem_of_getElem?
theorem KH:type_of% @List.length_map:=@List.length_map
theorem KI:type_of% @Int.eq_ofNat_of_zero_le:=@Int.eq_ofNat_of_zero_le
theorem KJ:type_of% @List.map_cons:=@List.map_cons
theorem KK:type_of% @List.map_append:=@List.map_append
theorem KL:type_of% @List.take_of_length_le:=@List.take_of_length_le
theorem KM:type_of% @List.mem_append:=@List.mem_append
theorem KN:type_of% @Nat.add_zero:=@Nat.add_zero
theorem KO:type_of% @List.length_singleton:=@List.length_singleton
theorem KP:type_of% @Bool.and_eq_true:=@Bool.and_eq_true
theorem KQ:type_of% @List.length_cons:=@List.length_cons
theorem KR:type_of% @List.append_assoc:=@List.append_assoc
theorem KS:type_of% @List.cons_append:=@List.cons_append
theorem KT:type_of% @List.mem_cons:=@List.mem_cons
theorem KU:type_of% @Nat.le_trans:=@Nat.le_trans
theorem KV:type_of% @Nat.zero_add:=@Nat.zero_add
theorem KW:type_of% @List.length_nil:=@List.length_nil
theorem KX:type_of% @List.flatMap_cons:=@List.flatMap_cons
theorem KY:type_of% @Int.toNat_natCast:=@Int.toNat_natCast
theorem KZ:type_of% @Nat.zero_le:=@Nat.zero_le
theorem Lb:type_of% @List.map_nil:=@List.map_nil
theorem Lc:type_of% @List.mem_map:=@List.mem_map
theorem Ld:type_of% @List.append_nil:=@List.append_nil
theorem Le:type_of% @List.nil_append:=@List.nil_append
theorem Lf:type_of% @List.mem_singleton:=@List.mem_singleton
theorem Lg:type_of% @Option.some.injEq:=@Option.some.injEq
theorem Lh:type_of% @List.drop_eq_nil_of_le:=@List.drop_eq_nil_of_le
theorem Li:type_of% @decide_eq_true_eq:=@decide_eq_true_eq
theorem Lj:type_of% @Bool.false_eq_true:=@Bool.false_eq_true
theorem Lk:type_of% @bodyPost_ret:=@bodyPost_ret
theorem Ll{M:Nat->Prop}{w:World}:Fr M w w:=Fr.refl _ _
theorem Lm{w:World}{t:TypeId}{cs:Array Value}:aq (w.alloc (.cells cs t)) w.heap.size t cs:=aq.new _ _ _
theorem ad{p:Prop}(h:p:=by omega):p:=h
theorem aC{p q:Prop}(x:q)(h:q->p:=by intro this;omega):p:=h x
theorem lK{p q r:Prop}(x:q)(y:r)(h:q->r->p:=by intro this this;omega):p:=h x y
theorem aH{A B:Prop}(a:A)(b:B):Lr A/\Lr B:=⟨ae a,ae b⟩
theorem eh{A B C:Prop}(a:A)(b:B)(c:C):Lr A/\Lr B/\Lr C:=⟨ae a,ae b,ae c⟩
theorem iS{A B C D:Prop}(a:A)(b:B)(c:C)(d:D):Lr A/\Lr B/\Lr C/\Lr D:=⟨ae a,ae b,ae c,ae d⟩
theorem CJ{A B C D E:Prop}(a:A)(b:B)(c:C)(d:D)(e:E):Lr A/\Lr B/\Lr C/\Lr D/\Lr E:=⟨ae a,ae b,ae c,ae d,ae e⟩
theorem CT{A B C D E F G:Prop}(a:A)(b:B)(c:C)(d:D)(e:E)(f:F)(g:G):Lr A/\Lr B/\Lr C/\Lr D/\Lr E/\Lr F/\Lr G:=⟨ae a,ae b,ae c,ae d,ae e,ae f,ae g⟩
theorem aG{p:Prop}(h:p:=by simp[intOf];omega):p:=h
theorem ah{A B:Prop}(a:A)(b:B):Lr (A/\B):=ae ⟨a,b⟩
theorem aD{A B C:Prop}(a:A)(b:B)(c:C):Lr (A/\B/\C):=ae ⟨a,b,c⟩
theorem bL{A B C D:Prop}(a:A)(b:B)(c:C)(d:D):Lr (A/\B/\C/\D):=ae ⟨a,b,c,d⟩
theorem cK{A B C D E:Prop}(a:A)(b:B)(c:C)(d:D)(e:E):Lr (A/\B/\C/\D/\E):=ae ⟨a,b,c,d,e⟩
theorem cS{A B C D E F:Prop}(a:A)(b:B)(c:C)(d:D)(e:E)(f:F):Lr (A/\B/\C/\D/\E/\F):=ae ⟨a,b,c,d,e,f⟩
theorem hP{A B C D E F G:Prop}(a:A)(b:B)(c:C)(d:D)(e:E)(f:F)(g:G):Lr (A/\B/\C/\D/\E/\F/\G):=ae ⟨a,b,c,d,e,f,g⟩
theorem o5{A B C D E F G H:Prop}(a:A)(b:B)(c:C)(d:D)(e:E)(f:F)(g:G)(h:H):Lr (A/\B/\C/\D/\E/\F/\G/\H):=ae ⟨a,b,c,d,e,f,g,h⟩
theorem w6{A B C D E F G H I:Prop}(a:A)(b:B)(c:C)(d:D)(e:E)(f:F)(g:G)(h:H)(i:I):Lr (A/\B/\C/\D/\E/\F/\G/\H/\I):=ae ⟨a,b,c,d,e,f,g,h,i⟩
theorem zA{A B C D E F G H I J:Prop}(a:A)(b:B)(c:C)(d:D)(e:E)(f:F)(g:G)(h:H)(i:I)(j:J):Lr (A/\B/\C/\D/\E/\F/\G/\H/\I/\J):=ae ⟨a,b,c,d,e,f,g,h,i,j⟩
theorem aX{w W:World}{o1:Obj}(h:w.alloc o1=W):Ext w W:=by subst h;exact Ll.alloc _
theorem iN{w W:World}{o1 fg:Obj}(h:(w.alloc o1).alloc fg=W):Ext w W:=by subst h;exact(Ll.alloc _).alloc _
theorem lF{w W:World}{o1 fg o3:Obj}(h:((w.alloc o1).alloc fg).alloc o3=W):Ext w W:=by subst h;exact((Ll.alloc _).alloc _).alloc _
theorem H5{w W:World}{o1 fg o3 o4:Obj}(h:(((w.alloc o1).alloc fg).alloc o3).alloc o4=W):Ext w W:=by subst h;exact(((Ll.alloc _).alloc _).alloc _).alloc _
theorem aK{w W:World}{t:TypeId}{cs:Array Value}(h:w.alloc (.cells cs t)=W):aq W (w.heap.size) t cs:=by subst h;exact Lm
theorem gC{w W:World}{fg:Obj}{t:TypeId}{cs:Array Value}(h:(w.alloc (.cells cs t)).alloc fg=W):aq W (w.heap.size) t cs:=by subst h;exact(Lm).alloc _
theorem ga{w W:World}{o1:Obj}{t:TypeId}{cs:Array Value}(h:(w.alloc o1).alloc (.cells cs t)=W):aq W (w.heap.size+1) t cs:=by subst h;exact aq.gz _ _ _ (by simp)
theorem jo{w W:World}{fg o3:Obj}{t:TypeId}{cs:Array Value}(h:((w.alloc (.cells cs t)).alloc fg).alloc o3=W):aq W (w.heap.size) t cs:=by subst h;exact((Lm).alloc _).alloc _
theorem ir{w W:World}{o1 o3:Obj}{t:TypeId}{cs:Array Value}(h:((w.alloc o1).alloc (.cells cs t)).alloc o3=W):aq W (w.heap.size+1) t cs:=by subst h;exact(aq.gz _ _ _ (by simp)).alloc _
theorem jq{w W:World}{o1 fg:Obj}{t:TypeId}{cs:Array Value}(h:((w.alloc o1).alloc fg).alloc (.cells cs t)=W):aq W (w.heap.size+2) t cs:=by subst h;exact aq.gz _ _ _ (by simp)
theorem GW{w W:World}{o1 fg:Obj}{t:TypeId}{cs:Array Value}(h:((w.alloc o1).alloc fg).alloc (.cells cs t)=W):aq W (w.heap.size+1+1) t cs:=by subst h;exact aq.gz _ _ _ (by simp)
theorem FQ{w W:World}{fg o3 o4:Obj}{t:TypeId}{cs:Array Value}(h:(((w.alloc (.cells cs t)).alloc fg).alloc o3).alloc o4=W):aq W (w.heap.size) t cs:=by subst h;exact(((Lm).alloc _).alloc _).alloc _
theorem FR{w W:World}{o1 o3 o4:Obj}{t:TypeId}{cs:Array Value}(h:(((w.alloc o1).alloc (.cells cs t)).alloc o3).alloc o4=W):aq W (w.heap.size+1) t cs:=by subst h;exact((aq.gz _ _ _ (by simp)).alloc _).alloc _
theorem FT{w W:World}{o1 fg o4:Obj}{t:TypeId}{cs:Array Value}(h:(((w.alloc o1).alloc fg).alloc (.cells cs t)).alloc o4=W):aq W (w.heap.size+2) t cs:=by subst h;exact(aq.gz _ _ _ (by simp)).alloc _
theorem FU{w W:World}{o1 fg o3:Obj}{t:TypeId}{cs:Array Value}(h:(((w.alloc o1).alloc fg).alloc o3).alloc (.cells cs t)=W):aq W (w.heap.size+3) t cs:=by subst h;exact aq.gz _ _ _ (by simp)
theorem gG{w W:World}{o1:Obj}(h:(w.alloc o1).drew=W):Ext w W:=by subst h;exact(Ll.alloc _).drew
theorem kp{w W:World}{t:TypeId}{cs:Array Value}(h:(w.alloc (.cells cs t)).drew=W):aq W (w.heap.size) t cs:=by subst h;exact(Lm).drew
theorem cJ{w X:World}{g o:Nat}{v:Value}(h:w.setCell ⟨g,o,none⟩ v=X):Fr (λb=>b=g) w X:=by subst h;exact(Fr.refl (λb=>b=g) w).setCell (.inl rfl) _
theorem EM{w X:World}{g o p:Nat}{v u:Value}(h:(w.setCell ⟨g,o,none⟩ v).setCell ⟨g,p,none⟩ u=X):Fr (λb=>b=g) w X:=by subst h;exact((Fr.refl (λb=>b=g) w).setCell (.inl rfl) _).setCell (.inl rfl) _
theorem FV{p:Prop}(h:p:=by
 have bT:=ae (bw.o cb);clear bw bo;go_wp2_with(fail);refine(fH s bR TA HA bV bC tn tc hn hc aT (ag.2.2.2.2.2.2.1.on a4.o).at_ aQ.sm).mono ?_;rintro e bX ⟨aZ,bc,aV,L,be,a3,xs,F1,F2,bK,bP,rfl,cy,br,a7⟩;have bW:=aD cy br a7;have cO:=a7.size;clear cy br a7 a8 am aF d0 aL aM;go_upto_region 13 with(fail);generalize hV:World.alloc _ _=V;have bm:=aX hV;have b7:=aK hV;have hOut:dy aS.heap.size V s bX.heap.size ⟨aZ,bV,bc,aV,tn,L,be,hn,a3⟩ xs F1 F2 bK bP:=
  ⟨bW.1.ak λb O=>bm.block b (bW.2.1 b O).2 λh=>h,b7,λO=>by have:=(bW.2.1 _ O).2;omega,λb O=>⟨by have:=(bW.2.1 b O).1;omega,by have:=(bW.2.1 b O).2;have:=bm.size;omega⟩,ad⟩
 have r:Ext W V:=(a4.trans bW.2.2).trans bm;have k:V.ownsRow 0 107 2 (.slice I tn aJ) tn (T.flatMap bH):=g9 (b0 (b0 aa.1 (Fr.ext bW.2.2)) (Fr.ext bm)) (KZ _);have l:∀b∈bq I tn aJ,aS.heap.size<=b/\b<aT.heap.size:=λb O=>aa.1.lt b (by simpa using O);have cc:=bL hOut r k l;obtain⟨e0,a6,aP⟩:=hOut.o.two;clear hV bm b7 hOut r k l;go_upto_region 14 with(fail);generalize hX:World.setCell _ _ _=X;have b4:dy aS.heap.size X {s with table:=T} bX.heap.size ⟨aZ,bV,bc,I,tn,aJ,be,hn,a3⟩ xs F1 (bq I tn aJ) bK bP:=
  cc.1.HQ cc.2.2.1 aa.2 (λb O=>⟨λhm=>by have:=(bW.2.1 b hm).1;have:=(cc.2.2.2 b O).2;omega,by have:=(cc.2.2.2 b O).2;omega,(cc.2.2.2 b O).1⟩) hX
 have b8:=cJ hX;have aY:Ext W X:=Fr.low (M:=λb=>b=bX.heap.size) (Fr.trans (Fr.mono cc.2.1 λ_ h=>h.elim) b8) λb O=>ad;obtain⟨c1,dt,i2,c4,de,dn,dh,c0,cg,aG,J⟩:=b4.top (fs:=fs) (f:=f) bU.2.2.1 bU.2.1 bU.1 bU.2.2.2.1;have av:=aD aG J aY;clear e0 a6 aP;obtain⟨e0,a6,aP⟩:=b4.o.two;clear hX b4 b8 aY aG J c0 cg;go_wp2_with(fail);refine(av.1 X Ll).mono ?_;rintro e cL ⟨rfl,cB⟩;have P:=ae (av.2.1 cL cB);have cj:=ae (av.2.2.trans cB);clear e0 a6 aP cB;have ca:=P.c1;have g2:=P.fz;have cT:=P.lt;have c8:=cn.2.2.1;go_upto_region 15 with(fail);generalize hX:World.setCell _ _ _=Y;have bJ:rY aS.heap.size Y {s with table:=T,threads:=s.threads.set t.toNat (fs++[next f])} bX.heap.size ⟨aZ,bV,bc,I,tn,aJ,be,hn,a3⟩ xs F1 (bq I tn aJ) bK bP t fs (next f) c1 dt i2 c4 de dn dh:=hX▸P.IP bU.2.2.1 (f.pc+1);have ar:=cJ hX;have dG:=P.ge;have ds:Ext W Y:=Fr.low (M:=λb=>b=c1) (Fr.trans (Fr.mono cj.o λ_ h=>h.elim) ar) λb O=>ad;have bB:=aD bJ.oz (ag.2.2.2.2.1.ai ds) (ag.1.trans ds);obtain⟨bl,aA,aO⟩:=bB.2.1.two;obtain⟨e0,a6,aP⟩:=bJ.oz.o.two;clear hX bJ ar ds ca g2 cT P;go_wp2_with(fail);generalize hX:World.setCell _ _ _=Z;obtain⟨bh,a9,bd⟩:=bA (w:=w) [.slice aZ bV bc,.slice I tn aJ,.slice be hn a3,.int .i64 s.fault] (by rfl) bB.2.1 bB.2.2 ad hX;have i:=ah a9 bd;clear hX a9 bd bl aA aO e0 a6 aP;obtain⟨bl,aA,aO⟩:=bh.two;refine Lk (v:=.tuple #[.agg #[.slice aZ bV bc,.slice I tn aJ,.slice be hn a3,.int .i64 s.fault],.bool true]) (by simp[results,Tryz.results31,go_sem,bl]) rfl ?_;rw[bT.o]
 show cR mG w {bs s t (next f) with table:=T} true _ _
 exact gS (Q:={bs s t (next f) with table:=T}) (q:=⟨aZ,bV,bc,I,tn,aJ,be,hn,a3⟩) bB.1 i.2 (λb O=>ad) ad i.1 (by rw[dZ bU.2.2.1])
 ):p:=h
theorem ei{p:Prop}(h:p:=by
 rw[if_neg (by first|omega|(simp only[ByteArray.size_append];omega)|(simp;omega))]
 ):p:=h
theorem FW{p:Prop}(h:p:=by
 go_upto_region 31 with(fail);refine eK (λ_=>False) [(0,3),(1,3),(2,3),(3,3),(4,3),(5,0),(6,0),(7,1),(8,2),(9,3),(10,3),(11,3),(12,2)] ?_
 iterate 5 refine pf ?_
 iterate 2 refine ph ?_
 refine qV ?_;generalize bI:World.drew (World.alloc _ _)=Z;have a9:=gG bI;have bh:=kp bI;have bl:=hx.next (hx.src.cO a9 λ_ _ h=>h) (a9.mono λ_ h=>h.elim);have dN:=bT.2.2.2.ai a9;have hd:∀b,(Value.slice FA i fc).ownBlock=some b->u<=b/\b<cL.heap.size:=λb O=>cn.fs.lt O;have iv:=cn.hD;have cf:Sl Z (lu (λb=>u<=b) Z (.slice FA i fc)) PA pn (ps.map ds):=dN.sl (λb _ h=>h.elim) (λb O aR=>⟨ad,O,λh=>by have:=(hd b h).2;omega⟩);have iu:cL.heap.size<=Z.heap.size:=by have:=bT.2.1.size;have:=a9.size;omega
 have bf:=bL bl bh cf bT.2.2.2.cap.1;have h4:=ae hd;have iw:=cn.blk.lt;clear bI a9 bh bl dN cf hd a0 ai af f0 dH dL;refine ax rfl (λK hK=>?_);rw[if_pos (by rfl)];refine e5 G5 (.tmp 177) (.tmp 179) (by rfl) bf.1.fs bf.2.1 (Fy bf.2.2.2 bf.2.2.1) (by rfl) (by rfl) (by rfl) ad ad ad ?_;intro hZ hR gS br T cQ cF;have a5:=bf.1.blk.on T (λO=>by have:=(h4.o _ O).1;omega);have a7:=ah br T;clear br T cQ cF;obtain⟨a0,ai,af⟩:=a5.two;clear a5;refine dO hK ?_;clear hK K
 iterate 3 refine pf ?_
 refine ax rfl (λK hK=>?_);go_simp;refine dO hK ?_;clear hK K;refine aE ?_;generalize bq:World.setCell _ _ _=hf;obtain⟨bc,b6,gs⟩:=h5.o;have f:=bf.1.add a7.1 a7.2 ad (cn.I7.snoc cd b6 gs gL.1);rw[bq] at f;have bN:=ae f;clear bq f a0 ai af gs;go_wp2_with(fail);go_roundw
 case rel=>exact⟨i+1,hZ,hR,F++[⟨jx i,ps,.nil⟩],by go_num,ad,bN.o⟩
 case measure=>exact aG
 ):p:=h
theorem FX{p:Prop}(h:p:=by
 go_upto_region 24 with(fail);generalize bw:World.alloc _ _=A;have n:=aX bw;have br:=aK bw;have r:=cj.trans n;have y:=aD (RO.ai aQ.1 r) (aQ.2.1.trans r) (aQ.2.2.trans r);have Y:=ah br n;have bo:=n.size;have dt:=cj.size;have T:=ae y.2.2;clear bw n r;obtain⟨a8,am,aF⟩:=(ag.2.2.1.ai y.2.2).two;obtain⟨d0,aL,aM⟩:=(bJ.ai y.2.1).two;obtain⟨e0,a6,aP⟩:=y.1.o.two;obtain⟨bj,k,flb,J,H,c0,c1,c2,c3,cm⟩:=y.1.top;obtain⟨f0,dH,dL⟩:=br.two;clear br;have de:=T.size;go_wp2_with(fail);refine(oQ P s ⟨bR,bV,bC,TA,tn,tc,HA,hn,hc⟩ z A (cc.2.2.GD G.o (ag.1.trans T.o)) (λb O=>KE (G.o b O) (ag.1.trans T.o).size)).mono ?_;rintro e c7 ⟨⟨ds,bn,bP,be,cg,bK,bQ,cG,ci⟩,rfl,bY,b0⟩;have f2:=b0.size;have c5:=ae bY;have aW:=ah (ag.2.2.2.1.ai (T.trans b0)) ((ag.1.trans T.o).trans b0);clear bY b0 f0 dH dL d0 aL aM e0 a6 aP c0 c1 c2 c3 H flb J bj k cm a8 am aF;obtain⟨bl,aA,aO⟩:=aW.1.two;go_wp2_with(fail);generalize hX:World.setCell _ _ _=Z;obtain⟨bh,a9,bd⟩:=bA (w:=w) [.slice ds bn bP,.slice be cg bK,.slice bQ cG ci,.int .i64 z] (by rfl) aW.1 aW.2 ad hX;have bf:=ah a9 bd;clear hX a9 bd bl aA aO;obtain⟨bl,aA,aO⟩:=bh.two;refine Lk (v:=.tuple #[.agg #[.slice ds bn bP,.slice be cg bK,.slice bQ cG ci,.int .i64 z],.bool true]) (by simp[results,Tryz.results10,go_sem,bl]) rfl ?_;rw[bT.o];exact ff (B:=A.heap.size) (Q:={s with fault:=z}) c5.o bf.2 (λb O=>⟨λhl=>by have:=G.o b hl;omega,ad⟩) (λb O=>by have:=G.o b O;omega) ad bf.1 rfl
 ):p:=h
theorem FY{p:Prop}(h:p:=by
 rintro r aS ⟨rfl,bS⟩;have aN:Ext w aS:=aw.trans (Fr.of bS);obtain⟨p0,be,dS⟩:=(c.ai (Fr.of bS)).two;have dL:=(aN.cell (j:=bn+i*3+2) aU (λh=>h)).trans f2;have bu:=ae aN;clear aw aN c e0 e1 e2 e3 f0 f1 f2 dh cv bS;generalize ev g l e=r at *;obtain⟨v,f⟩:=r;by_cases J:f=0
 case neg=>
  have q5:(f != 0)=true:=by simpa using J
  have cq:=ae (show idx bK.size (v,f)=(0,f) by unfold idx;rw[if_pos J]);clear J;go_wp2
  go_ret2
  exact fY.mk' cq.o (Fr.ext bu.o)
 have q5:(f != 0)=false:=by simpa using J
 by_cases bI:v<0
 .have di:decide (v<0)=true:=by simpa using bI
  have cq:=ae (show idx bK.size (v,f)=(0,2) by unfold idx;rw[if_neg (by simpa using J),if_pos (.inl bI)]);clear J bI;go_wp2
  go_ret2
  exact fY.mk' cq.o (Fr.ext bu.o)
 have di:decide (v<0)=false:=by simpa using bI
 by_cases u:bK.size<=v
 .have q7:decide (v>=bK.size)=true:=by simpa using u
  have cq:=ae (show idx bK.size (v,f)=(0,2) by unfold idx;rw[if_neg (by simpa using J),if_pos (.inr u)]);clear J bI u;go_wp2
  go_ret2
  exact fY.mk' cq.o (Fr.ext bu.o)
 .have q7:decide (v>=bK.size)=false:=by simpa using u
  have cq:=ae (show idx bK.size (v,f)=(v,0) by unfold idx;rw[if_neg (by simpa using J),if_neg ad]);clear J bI u;go_wp2
  go_ret2
  exact fY.mk' cq.o (Fr.ext bu.o)
 ):p:=h
theorem CU{p:Prop}(h:p:=by
 rintro e aT ⟨bb,rfl,U,a3⟩;have bJ:=ah U (bq.1.trans a3);clear U a3
 cases bb with
 | true=>
  go_wp2_with(fail);go_ret
  exact⟨(i:Int),rfl,⟨λ_=>⟨_,KG bU.o,bJ.1.1 (by first|rfl|trivial)⟩,λ_=>ad⟩,bJ.2⟩
 | false=>
  go_wp2_with(fail);go_roundw
  case rel=>
   refine⟨i+1,by go_num,ad,bJ.2,λj x bi hx=>?_⟩;by_cases az:j<i
   .exact bq.2 j x az hx
   .obtain rfl:j=i:=ad;rw[bU.o] at hx;injection hx with hx;subst hx;exact λh=>by have:=bJ.1.2 h;first|cases this|exact this
  case measure=>exact aG
 ):p:=h
theorem w7{p:Prop}(h:p:=by
 go_wp2;go_roundw
 case rel=>exact⟨k+1,ad,by go_num,by rw[<-aL.o],bq.trans (L.trans bu.o)⟩
 case measure=>exact aG
 ):p:=h
theorem FZ{p:Prop}(h:p:=by
 by_cases cF:hd.depth - 1=0
 .have D:(hd.depth - 1 == 0)=true:=by simpa using cF
  have z:=ae cF;clear cF;go_wp2
  go_ret2
  refine gF.mk' (A:=some ⟨g,0,none⟩) (c:=c1) (n:=n2) I.o ?_ ?_ bT.o
  .rw[b9.o,down,if_pos z.o];have bi:(T.set k ⟨hd.owner,hd.depth - 1⟩)[k]?=some ⟨hd.owner,hd.depth - 1⟩:=by rw[List.getElem?_set_self ad]
   obtain⟨ah,i,_,_,_,_,_,am,_⟩:=jD y.o cm bi;injection i with i;injection i with i;subst i;have:=am 0;rw[List.set_set] at this;exact this
  .exact(O.setCell (by simpa using a2) _).setCell (by simpa using a2) _
 .have D:(hd.depth - 1 == 0)=false:=by simpa using cF
  have z:=ae cF;clear cF;go_wp2
  go_ret2
  refine gF.mk' (A:=some ⟨g,0,none⟩) (c:=c1) (n:=n2) I.o ?_ ?_ bT.o
  .rw[b9.o,down,if_neg z.o];exact y.o
  .exact O.setCell (by simpa using a2) _
 ):p:=h
theorem F0{p:Prop}(h:p:=by
 have bT:=ae (bw.o cb);have aW:=ah (ag.2.2.2.1.ai bB.2.2) (ag.1.trans bB.2.2);have cE:=bB.2.2.size;obtain⟨bl,aA,aO⟩:=aW.1.two;obtain⟨e0,a6,aP⟩:=bB.2.1.two;go_wp2_with(fail);generalize hX:World.setCell _ _ _=Z;obtain⟨bh,a9,bd⟩:=bA (w:=w) [.slice bL cr bc,.slice I tn aJ,.slice (some ⟨O,0,none⟩) co a3,.int .i64 s.fault] (by rfl) aW.1 aW.2 ad hX;have bf:=ah a9 bd;clear hX a9 bd bl aA aO e0 a6 aP;obtain⟨bl,aA,aO⟩:=bh.two;refine Lk (v:=.tuple #[.agg #[.slice bL cr bc,.slice I tn aJ,.slice (some ⟨O,0,none⟩) co a3,.int .i64 s.fault],.bool true]) (by simp[results,Tryz.results10,go_sem,bl]) rfl ?_;exact AZ
 ):p:=h
theorem F3{p:Prop}(h:p:=by
 have aW:=ah (ag.2.2.2.1.ai bB.2.2) (ag.1.trans bB.2.2);have cE:=bB.2.2.size;obtain⟨bl,aA,aO⟩:=aW.1.two;obtain⟨e0,a6,aP⟩:=bB.2.1.two;go_wp2_with(fail);generalize hX:World.setCell _ _ _=Z;obtain⟨bh,a9,bd⟩:=bA (w:=w) [.slice bL cr bc,.slice ab m L,.slice (some ⟨O,0,none⟩) co a3,.int .i64 s.fault] (by rfl) aW.1 aW.2 ad hX;have bf:=ah a9 bd;clear hX a9 bd bl aA aO e0 a6 aP;obtain⟨bl,aA,aO⟩:=bh.two;refine Lk (v:=.tuple #[.agg #[.slice bL cr bc,.slice ab m L,.slice (some ⟨O,0,none⟩) co a3,.int .i64 s.fault],.bool true]) (by simp[results,Tryz.results10,go_sem,bl]) rfl ?_;rw[bT.o];exact ff (B:=V.heap.size) bB.1 bf.2 (λb O=>⟨λhl=>by have:=G.o b hl;omega,ad⟩) (λb O=>by have:=G.o b O;omega) ad bf.1 (by rw[dZ bU.2.1,List.set_set];rfl)
 ):p:=h
theorem w8{p:Prop}(h:p:=by
 have aW:=ae (show decide (S=T)=true from decide_eq_true (by
  apply List.ext_getElem?
  intro j;by_cases bi:j<k
  .exact aA.o j bi
  .rw[List.getElem?_eq_none (aC b9.o),List.getElem?_eq_none (aC J.o)]))
 go_wp2;go_ret;exact⟨ret_bool (by rw[aW.o]),O⟩
 ):p:=h
theorem F4{p:Prop}(h:p:=by
 have bz:(0:Int)<=(k:Int):=ad;have cb:(k:Int)<(n:Int):=ad;by_cases hd:x=d
 .have aQ:=ae (show S[k]?=T[k]? by rw[hx,g,hd]);have u:(x != d)=false:=by simp[hd]
  exact AX
 .have aW:=ae (show decide (S=T)=false from decide_eq_false (λh=>by
   subst h;rw[hx] at g;injection g with g;exact hd g))
  have u:(x != d)=true:=by simp[hd]
  exact A6
 ):p:=h
theorem CV{p:Prop}(h:p:=by
 exact AZ
 ):p:=h
theorem F5{p:Prop}(h:p:=by
 exact AX
 ):p:=h
theorem F6{p:Prop}(h:p:=by
 have aK:=ah R co;have b7:=ag.2.2.2.1.on bW.2 (λh=>by have:=ag.2.2.2.2;omega);have aI:=ae b7;obtain⟨e0,a6,aP⟩:=b7.two;clear h he R co b7;go_wp2_with(fail);generalize ct:World.setCell _ _ _=Y;obtain⟨bE,bG,bH⟩:=dU (M:=λb=>b=s) [.int .i64 1,.int .i64 cV,.string ⟨#[]⟩,.slice none 0 0] (by rfl) aI.o (ag.2.2.1.trans bW.2) (KD _) ct;obtain⟨bl,aA,aO⟩:=bE.two;refine Lk (v:=.agg #[.int .i64 1,.int .i64 cV,.string ⟨#[]⟩,.slice none 0 0]) (by simp[results,Tryz.results121,go_sem,bl]) rfl ?_;exact⟨.num cV,none,0,0,rfl,(by cases d<;>exact aK.o),KD _,Sl.bN _,bW.1.cO bH (λb O h=>by have:=ag.2.2.2.2;omega),bG⟩
 ):p:=h
theorem F7{p:Prop}(h:p:=by
 clear h;go_enter func56,ntmps56;go_upto_region 1 with(fail);generalize ba:World.alloc _ _=W;have aw:=iN ba;have aR:=gC ba;have cA:=ga ba;obtain⟨a0,ai,af⟩:=aR.two;obtain⟨bl,aA,aO⟩:=cA.two;have bq:=ah aw cA;clear ba aw aR cA;go_wp2_with(fail);generalize hX:World.setCell _ _ _=X;obtain⟨bz,bp,b5⟩:=bA (w:=w) [.int .i64 0,.int .i64 0,.slice none 0 0,.slice none 0 0] (by rfl) bq.2 bq.1 ad hX;have aQ:=ae bp;clear hX bp b5 a0 ai af bl aA aO;exact AY
 ):p:=h
theorem F8{p:Prop}(h:p:=by
 obtain⟨bl,aA,aO⟩:=aW.1.two;go_wp2_with(fail);generalize hX:World.setCell _ _ _=Z;obtain⟨bh,a9,bd⟩:=bA (w:=w) [.slice ds bn bP,.slice be cg bK,.slice bQ cG ci,.int .i64 z] (by rfl) aW.1 aW.2 ad hX;have bf:=ah a9 bd;clear hX a9 bd bl aA aO;obtain⟨bl,aA,aO⟩:=bh.two;refine Lk (v:=.tuple #[.agg #[.slice ds bn bP,.slice be cg bK,.slice bQ cG ci,.int .i64 z],.bool true]) (by simp[results,Tryz.results10,go_sem,bl]) rfl ?_;rw[bT.o];exact ff (B:=cL.heap.size) (Q:={s with fault:=z}) c5.o bf.2 (λb O=>⟨λhl=>by have:=G.o b hl;omega,ad⟩) (λb O=>by have:=G.o b O;omega) ad bf.1 rfl
 ):p:=h
theorem H6{p:Prop}(h:p:=by
 exact AY
 ):p:=h
theorem F9{p:Prop}(h:p:=by
 have c0:=Z 0 cr rfl;have c1:=Z 1 cy rfl;have c2:=Z 2 cd rfl;have c3:=Z 3 bv rfl;simp only[KN] at c0;have aV:b<wr.heap.size:=O;clear Z O;obtain⟨B,bN,bc,e,cv,b2⟩:=a1.1 Q;simp only[List.cons.injEq,and_true] at e;obtain⟨rfl,rfl,rfl,rfl⟩:=e;obtain⟨bB,H⟩:=aH bb Q;clear bb Q b2;go_wp2_with(fail);refine(cq.o k z bB.o _ _ _ _ _ _ wr H.o).mono ?_;rintro e aT ⟨rfl,bw⟩;have a4:=ae (bq.trans bw);have br:=ae (b1.ai bw);clear bw;exact A7
 ):p:=h
theorem Ga{p:Prop}(h:p:=by
 rintro e aT ⟨bb,rfl,U,a3⟩;have bJ:=ah U ((bq.1.trans bB.o).trans a3);clear U a3 bs aV bu cr N aF
 cases bb with
 | false=>
  go_wp2_with(fail);go_ret;refine⟨false,rfl,⟨λh=>(by cases h),λh=>?_⟩,bJ.2⟩;have ac:=bU.1;rw[h,bU.2] at ac;injection ac with ac
  exact bJ.1.2 ac.symm
 | true=>
  go_wp2_with(fail);go_roundw
  case rel=>
   refine⟨i+1,by go_num,ad,bJ.2,λj bi=>?_⟩;by_cases az:j<i
   .exact bq.2 j az
   .obtain rfl:j=i:=ad;rw[bU.1,bU.2,bJ.1.1 (by first|rfl|trivial)]
  case measure=>exact aG
 ):p:=h
theorem Gb{p:Prop}(h:p:=by
 go_wp2_with(fail);refine(show Calls prog 141 #[.pointer (some ⟨g,0,none⟩),.string ⟨#[40]⟩] w _ from mL [40] g A n c T k deep w H.o bU.1 ad).mono ?_;rintro e aS ⟨rfl,aZ,hF⟩;have H1:=ah aZ hF;clear aZ hF;go_wp2_with(fail);refine(show Calls prog 114 #[.pointer (some ⟨g,0,none⟩),.string ⟨#[41]⟩] aS _ from dx [41] g A n c T (k+1) deep aS H1.1 true bU.2 (λ_=>ad)).mono ?_;rintro e aT ⟨rfl,aZ,hF⟩;have bJ:=ah (show cj aT g A n c T (k+2) deep from by simpa using aZ) (H1.2.trans hF);clear aZ hF H1;go_wp2_with(fail);go_ret;exact⟨rfl,bJ.o⟩
 ):p:=h
theorem CW{p:Prop}(h:p:=by
 clear aw T;go_wp2_with(fail);go_ret;refine⟨-1,rfl,⟨λh=>ad,λ⟨x,hx,hp⟩=>?_⟩,bq.1⟩;obtain⟨j,bi⟩:=List.getElem?_of_mem hx;exact absurd hp (bq.2 j x (by have:=(List.getElem?_eq_some_iff.1 bi).1;have:=b4.1;omega) bi)
 ):p:=h
theorem Gc{p:Prop}(h:p:=by
 refine gF.mk' (A:=some ⟨g,0,none⟩) (c:=c1) (n:=n2) I.o ?_ ?_ bT.o
 .rw[b9.o];have bi:(T.set k ⟨th+1,hd.depth⟩)[k]?=some ⟨th+1,hd.depth⟩:=by rw[List.getElem?_set_self ad]
  obtain⟨ah,i,_,_,_,_,_,_,s1⟩:=jD l.o cm bi;injection i with i;injection i with i;subst i;have:=s1 (hd.depth+1);rw[List.set_set] at this;exact this
 .exact(dm.setCell (by simpa using a2) _).setCell (by simpa using a2) _
 ):p:=h
theorem CX{p:Prop}(h:p:=by
 go_wp2_with(fail);refine cq.mono ?_;rintro e aT ⟨r,rfl,a5,a3⟩;have bJ:=ah a5 a3;clear a5 a3;go_wp2_with(fail);go_ret;exact⟨decide (r>=0),rfl,⟨λh=>bJ.1.1 (of_decide_eq_true h),λh=>decide_eq_true (bJ.1.2 h)⟩,bJ.2⟩
 ):p:=h
theorem Gd{p:Prop}(h:p:=by
 rw[aZ bU.o,qe,<-List.append_assoc,KK,bs];have ac:=(bF.dj (ab:=X) b8.size λb ak hp=>b8.block b ak λhe=>by
  subst he;rcases hp with hp|hp
  .exact hp.elim
  .exact cG.1 hp).dj (ab:=cK) ay.size λb ak hp=>ay.block b ak λhe=>by
  subst he;rcases hp with hp|hp
  .exact hp.elim
  .exact cG.2 hp
 show Gr (λ_=>False) W.heap.size 145 3 cK A2 (ln+k+1) c2 _
 simpa using ac
 ):p:=h
theorem tr{p:Prop}(h:p:=by
 go_wp2;go_ret;exact⟨ret_bool (by rw[aW.o]),O⟩
 ):p:=h
theorem Ge{p:Prop}(h:p:=by
 go_wp2_with(fail);generalize ct:World.setCell _ _ _=Y;obtain⟨bE,bG,bH⟩:=dU (M:=λ_=>False) [.slice none 0 0,.slice none 0 0,.slice none 0 0] (by rfl) bo.2.2.1 (w:=w) bo.1 ad ct;obtain⟨bl,aA,aO⟩:=bE.two;refine Lk (v:=.tuple #[.agg #[.slice none 0 0,.slice none 0 0,.slice none 0 0],.int .i64 11]) (by simp[results,Tryz.results23,go_sem,bl]) rfl ?_;exact⟨_,_,_,_,_,_,_,_,_,_,rfl,bG⟩
 ):p:=h
theorem Gf{p:Prop}(h:p:=by
 go_wp2_with(at_builtin;refine dk aT kq rfl (.tmp 28) (.tmp 30) rfl (w.heap.size+1) _ k _ #[_] rfl a6.o rfl rfl (by simp[Value.oneCell']) ad ad b2 ?_;intro aj bX f eN aA;obtain⟨cC,c3,rfl,bf,_⟩:=b1 f);go_roundw
 case rel=>
  refine⟨k+1,ad,by go_num,l.on (Hg a6.o eN λg a2=>a2),?_⟩;rw[wG R.o,<-aL.o];exact f
 case measure=>exact aG
 ):p:=h
theorem H7{p:Prop}(h:p:=by
 obtain⟨cW,cP,_,aB,_⟩:=h.hF.ex;rw[h.hp] at cP;injection cP with cP;subst cP;rcases an with⟨ac,au,aU,bE,cF⟩|⟨ac,_⟩|⟨ac,_⟩|⟨ac,_,au,aU,bE⟩|⟨ac,_⟩|⟨ac,_⟩
 .exact⟨au,aU,λ_ a2=>by have:=bE a2;simpa[bx] using this,λ_ a2=>by have:=cF a2;omega⟩
 .omega
 .omega
 .exact⟨au,aU,λh=>ad,λh=>ad⟩
 .omega
 .omega
 ):p:=h
theorem Gg{p:Prop}(h:p:=by
 by_cases ac:op=16
 .refine .inl ⟨by simpa using ac,?_,by simp;omega⟩;have:v1≠0:=λag=>bx ⟨ac,ag⟩;simpa using this
 .by_cases au:op=17
  .refine .inr (.inl ⟨by simpa using ac,by simpa using au,?_⟩);by_cases bI:v1=0
   .simpa using bI
   .exact absurd ⟨au,bI⟩ bn
  .exact .inr (.inr ⟨by simpa using ac,by simpa using au⟩)
 ):p:=h
theorem Gh{p:Prop}(h:p:=by
 rintro a6 bk ⟨rfl,ar⟩;have aM:=ae (F.trans ar);have aY:=ae (aN.trans ar);have bI:=ae (N.ai ar);have bQ:=ae (bQ.ai ar);clear a0 ai af F aN N;obtain⟨a0,ai,af⟩:=bQ.two;clear a0 ai af;obtain⟨a0,ai,af⟩:=bQ.two;go_wp2;go_roundw
 case rel=>exact⟨j+1,ad,by go_num,aM.o,aY.o,bI.o⟩
 case measure=>exact aG
 ):p:=h
theorem CY{p:Prop}(h:p:=by
 constructor
 .rintro⟨y,rfl,h⟩;rw[bm] at h;obtain⟨cd,rfl,h⟩:=h;rw[aP] at h;subst h;rfl
 .rintro rfl;exact⟨_,rfl,bm.2 ⟨_,rfl,aP.2 rfl⟩⟩
 ):p:=h
theorem ts{p:Prop}(h:p:=by
 go_enter func33,ntmps33;go_wp2_with(fail);go_ret;exact⟨rfl,Ll.alloc _⟩
 ):p:=h
theorem w9{p:Prop}(h:p:=by
 generalize (Value.agg #[.int .i64 x.a9,.int .i64 x.numOf,.string x.bu,.slice cA cj cF])=Y;intro aT;exact key aW Y _ aT
 ):p:=h
theorem xa{p:Prop}(h:p:=by
 go_wp2;go_roundw
 case rel=>exact⟨k+1,ad,by go_num,by rw[<-aL.o],bu.o⟩
 case measure=>exact aG
 ):p:=h
theorem Gi{p:Prop}(h:p:=by
 rintro e aE ⟨rfl,he⟩;have a4:=ae (bu.trans he);have y:=ae (m.trans he);have br:=ae (G.ai he);clear he a0 ai af bu m G;obtain⟨a0,ai,af⟩:=br.two;go_wp2;refine wp_loop_rounds 1 ?_;rw[rounds_succ];go_wp2;go_roundw
 case rel=>exact⟨k+1,ad,by go_num,a4.o⟩
 case measure=>exact aG
 ):p:=h
theorem xb{p:Prop}(h:p:=by
 rcases O with O|O
 .rw[O] at hc;exact aV.2.2 hc
 .rw[O] at hc;injection hc with hc;have:=aV.2.1;omega
 ):p:=h
theorem q2{p:Prop}(h:p:=by
 exact gF.mk' I.o (by rw[b9.o];exact aB) O bT.o
 ):p:=h
theorem xc{p:Prop}(h:p:=by
 refine fin _ λs hs=>?_;rcases KT.1 hs with rfl|hs
 .exact⟨c,c⟩
 .exact ao.2 s hs
 ):p:=h
theorem Gj{p:Prop}(h:p:=by
 exact A7
 ):p:=h
theorem Gk{p:Prop}(h:p:=by
 exact A6
 ):p:=h
theorem Gl{p:Prop}(h:p:=by
 go_wp2;go_roundw
 case rel=>
  refine⟨k+1,ad,by go_num,λj u bi g=>?_,aV.alloc b2 _⟩;by_cases z:j<k
  .exact aA.o j u z g
  .obtain rfl:j=k:=ad;rw[aQ.o] at g;injection g with g;rw[<-g];exact aP.o
 case measure=>exact aG
 ):p:=h
theorem CZ{p:Prop}(h:p:=by
 obtain⟨A,n,c,ac,au,aU⟩:=h.ex;exact⟨KE h.lt O.size,A,n,c,ac,(O.cell h.lt (λh=>h)).trans au,aU.on (Fr.ext O)⟩
 ):p:=h
theorem C0{p:Prop}(h:p:=by
 simp only[D.aQ,D.rep];constructor
 .rintro⟨x,y,rfl,rfl,h⟩;exact⟨y,rfl,h⟩
 .rintro⟨y,rfl,h⟩;exact⟨_,y,rfl,rfl,h⟩
 ):p:=h
theorem xd{p:Prop}(h:p:=by
 go_wp2;go_roundw
 case rel=>exact⟨k+1,ad,by go_num,a9.o⟩
 case measure=>exact aG
 ):p:=h
theorem Gm{p:Prop}(h:p:=by
 unfold gI at h;rw[bI,fp] at h;obtain⟨y,rfl,h⟩:=h;obtain⟨x,cd,rfl,hx,bb⟩:=dD.1 h;obtain⟨A,n,c,rfl,hc,hs⟩:=jv.1 hx;rw[D.bj] at bb;obtain⟨A2,c2,rfl⟩:=fh.1 bb;exact⟨_,A,n,c,_,_,rfl,hx⟩
 ):p:=h
theorem xe{p:Prop}(h:p:=by
 clear bn al;go_wp2;go_ret;refine⟨ret_bool ?_,O⟩;rw[aW.o,i.o,bM.o];simp
 ):p:=h
theorem Gn{p:Prop}(h:p:=by
 rcases h with⟨m,hm,_,ac,au⟩|⟨_,hp⟩
 .by_cases bt:0<m.size
  .obtain⟨l,a,hs⟩:=ac bt;rw[an] at a;injection a with a;subst a;exact hs
  .rw[au bt] at an;cases an
 .rw[hp] at an;cases an
 ):p:=h
theorem Gp{p:Prop}(h:p:=by
 clear aw T;go_wp2_with(fail);go_ret;refine⟨true,rfl,⟨λ_=>List.ext_getElem? λj=>?_,λ_=>rfl⟩,bq.1⟩;exact A5
 ):p:=h
theorem tt{p:Prop}(h:p:=by
 go_wp2;go_ret;exact⟨ret_bool (by rw[aW.o]),aV.alloc b2 _⟩
 ):p:=h
theorem Gq{p:Prop}(h:p:=by
 have q1:((n:Int) != (m:Int))=true:=by simp;omega
 have aj:=ae I;clear I;go_wp2_with(fail);go_ret;exact⟨false,rfl,⟨λh=>(by cases h),λh=>absurd (by rw[<-b4.1,<-b4.2.1,h]) aj.o⟩,Ll⟩
 ):p:=h
theorem Gs{p:Prop}(h:p:=by
 obtain⟨cy,rfl,ac⟩:=bm.1 h;obtain⟨cd,rfl,au⟩:=bm.1 ac;obtain⟨bv,rfl,aU⟩:=bm.1 au;obtain⟨A,n,c,cJ,rfl,hc,hs,bE⟩:=aN.1 aU;rw[aP] at bE;subst bE;exact⟨A,n,c,rfl,hc,hs⟩
 ):p:=h
theorem Gt{p:Prop}(h:p:=by
 unfold ds;rw[bI,cp];constructor
 .rintro⟨y,rfl,h⟩;rw[fp] at h;obtain⟨cd,rfl,h⟩:=h;rw[aP] at h;subst h;rfl
 .rintro rfl;exact⟨_,rfl,fp.2 ⟨_,rfl,aP.2 rfl⟩⟩
 ):p:=h
theorem q3{p:Prop}(h:p:=by
 go_wp2;go_ret;exact⟨ret_int (by rw[aW.o]),O⟩
 ):p:=h
theorem Gu{p:Prop}(h:p:=by
 have aW:=o5 r1 cG.1 cG.2 gP gQ cg rg ro;clear r1 gP gQ cg rg ro bF b0 b1 cj cG b8 z ay bB c0 bV bt;go_wp2;go_roundw
 case rel=>exact⟨k+1,A2,c2,ad,by go_num,aW.o⟩
 case measure=>exact aG
 ):p:=h
theorem C1{p:Prop}(h:p:=by
 have hle:=(Fr.aF ar).size;clear hV ar;generalize aS.heap.size=c6 at *;exact key c6 V ⟨bm,aR,hle⟩
 ):p:=h
theorem Gv{p:Prop}(h:p:=by
 have:b=.sg [41]:=by
  simp[dX] at O;exact O.symm
 subst this;refine⟨λh=>by simp[Atom.km] at h,λs hs _ c hc=>?_⟩;injection hs with hs;subst hs;simp[Atom.head] at hc;subst hc;decide
 ):p:=h
theorem y1{p:Prop}(h:p:=by
 apply List.ext_getElem?
 intro j;rw[List.getElem?_map,List.getElem?_map];by_cases bi:i=j
 .subst bi;rw[List.getElem?_set_self (List.getElem?_eq_some_iff.1 J).1,J];rfl
 .rw[List.getElem?_set_ne bi]
 ):p:=h
theorem y2{p:Prop}(h:p:=by
 have ac:=e1.size;exact⟨λO=>by
  rcases al _ O with h|h
  .exact(aB _ h).2.1 rfl
  .omega,λO=>by
  rcases al _ O with h|h
  .exact(aB _ h).2.2 rfl
  .omega⟩
 ):p:=h
theorem y3{p:Prop}(h:p:=by
 have q1:(be == dS)=false:=by simpa using e1
 have b4:=ae e1;clear e1;go_wp2_with(fail);go_ret;exact⟨false,rfl,⟨λh=>(by cases h),λh=>absurd (cw.1 h).1 b4.o⟩,ag.1⟩
 ):p:=h
theorem GX{p:Prop}(h:p:=by
 rw[mr];exact(bo.2.2.2.2.1.ak λb O=>J.block b O.2 (lK O.1 aW.2.1.lt)).mono λb O=>⟨by have:=O.1;have:=aW.2.1.lt;omega,by have:=O.2;have:=J.size;omega⟩
 ):p:=h
theorem rZ{p:Prop}(h:p:=by
 exact ko.bad aW.o (b9.below.trans (aa.below.mono b9.below.size))
 ):p:=h
theorem y4{p:Prop}(h:p:=by
 simp only[KX,Atom.bytes,KS,Le];unfold fK;simp only[g,cV,H,Lj,if_false,k];rw[if_neg ad,if_neg ad];exact ao _
 ):p:=h
theorem r0{p:Prop}(h:p:=by
 have au:=b1.2;simp only[KJ,Lb,au];exact ac
 ):p:=h
theorem r2{p:Prop}(h:p:=by
 go_wp2;go_ret;exact⟨ret_bool (by rw[aW.o]),Below.refl _ _⟩
 ):p:=h
theorem GY{p:Prop}(h:p:=by
 rw[mr];exact(bo.2.2.2.2.1.ak λb O=>J.block b O.2 (lK O.1 aW.2.1.lt)).mono λb O=>⟨by have:=O.1;omega,by have:=O.2;have:=J.size;omega⟩
 ):p:=h
theorem r3{p:Prop}(h:p:=by
 rw[aP] at aU;subst aU;exact⟨A,n,c,rfl,hc,hs⟩
 ):p:=h
theorem y5{p:Prop}(h:p:=by
 obtain⟨len,_,an⟩:=h.ok;rcases an with⟨ac,_⟩|⟨ac,_⟩|⟨_,_,ac⟩|⟨ac,_⟩|⟨ac,_⟩|⟨ac,_⟩<;>first|exact ac|omega
 ):p:=h
theorem r4{p:Prop}(h:p:=by
 generalize wr.heap.size=az;intro ag;exact key aW az j _ ag
 ):p:=h
theorem y6{p:Prop}(h:p:=by
 have n:=ae e1;clear e1;go_wp2_with(fail);go_ret;exact⟨false,rfl,⟨λh=>(by cases h),λh=>absurd (cw.1 h).1 (aC n.o)⟩,ag.1⟩
 ):p:=h
theorem y7{p:Prop}(h:p:=by
 refine⟨_,_,_,_,_,rfl,?_,bG.drew⟩;rw[bv.o];refine dT.2 ⟨none,0,0,rfl,KD _,?_⟩;simp only[an];exact Sl.bN _
 ):p:=h
theorem uV{p:Prop}(h:p:=by
 go_wp2;go_ret;exact⟨ret_int (by rw[aW.o];rfl),Ll.alloc _⟩
 ):p:=h
theorem uW{p:Prop}(h:p:=by
 exact⟨_,rfl,aN.2 ⟨A,n,c,[],rfl,hc,hs,aP.2 rfl⟩⟩
 ):p:=h
theorem y8{p:Prop}(h:p:=by
 intro hm;rcases hm with hm|hm|hm
 .have:=HA.lt;omega
 .have:=(HA.rows.one.lt hm).2;omega
 .have:=(HA.rows.two.lt hm).2;omega
 ):p:=h
theorem y9{p:Prop}(h:p:=by
 obtain⟨len,_,an⟩:=i.ok;rcases an with⟨ac,_⟩|⟨ac,_⟩|⟨ac,_⟩|⟨ac,_⟩|⟨ac,_⟩|⟨ac,_⟩<;>omega
 ):p:=h
theorem za{p:Prop}(h:p:=by
 simp only[KM] at O ⊢;rcases O with O|O|O
 .exact .inl O
 .exact .inr (.inl O)
 .exact .inr (.inr (.inr O))
 ):p:=h
theorem r5{p:Prop}(h:p:=by
 have:=N.2;simpa[qR,qZ] using this
 ):p:=h
theorem zb{p:Prop}(h:p:=by
 rw[<-hX];exact⟨Q.below.setCell (p:=⟨wr.heap.size,0,none⟩) (KD _) _,Q.blk.aM 0 _,by simpa using Q.lt⟩
 ):p:=h
theorem r6{p:Prop}(h:p:=by
 go_wp2;go_ret;exact⟨ret_bool aW.symm,a4.o⟩
 ):p:=h
theorem GZ{p:Prop}(h:p:=by
 have cg:(hd.owner == 0)=true:=by simpa using bn
 clear bn;go_wp2;go_ret;exact⟨ret_bool (by rw[aW.o,bM.o];rfl),O⟩
 ):p:=h
theorem zd{p:Prop}(h:p:=by
 unfold fV;rw[bI];exact cp.2 ⟨_,rfl,aN.2 ⟨none,0,0,[],rfl,KD _,Sl.bN _,aP.2 rfl⟩⟩
 ):p:=h
theorem ze{p:Prop}(h:p:=by
 rw[<-hV];exact⟨((Ll.alloc _).alloc _).drew,(Lm).alloc _,aq.gz _ _ _ (by simp),ad,ad,ad⟩
 ):p:=h
theorem zf{p:Prop}(h:p:=by
 go_wp2_with(fail);go_ret;exact⟨false,rfl,⟨λh=>(by cases h),λh=>absurd (by rw[aA.1 h]) dh.o⟩,L.o⟩
 ):p:=h
theorem zg{p:Prop}(h:p:=by
 clear ag;conv=>arg 2;whnf
 go_wp2
 try refine x _ _ ?_
 unfold qN
 iterate 248 apply Exists.intro
 exact⟨a7.o,rfl⟩
 ):p:=h
theorem zh{p:Prop}(h:p:=by
 have bR:L=T:=by rw[<-b1.o];unfold fw;rw[J];rfl
 exact gF.mk' I.o (by rw[bR];exact az) dm J
 ):p:=h
theorem uX{p:Prop}(h:p:=by
 go_wp2;go_ret;exact⟨ret_int (by rw[b1.o]),Below.refl _ _⟩
 ):p:=h
theorem zi{p:Prop}(h:p:=by
 rw[D.bj] at bb;obtain⟨A2,bi,c2,rfl,_,_⟩:=a1.1 bb;exact⟨_,_,_,_,_,_,_,_,rfl,bb⟩
 ):p:=h
theorem zj{p:Prop}(h:p:=by
 rcases Nat.eq_zero_or_pos n2 with ac|ac
 .exact ac
 .obtain⟨b,o,au,_⟩:=ht.2 ac;rw[h0] at au;cases au
 ):p:=h
theorem zk{p:Prop}(h:p:=by
 generalize (Value.agg (ar.val m7))=Y;generalize (Value.agg (b7.val (dJ qQ)))=J;intro F;exact key az J Y _ F
 ):p:=h
theorem uY{p:Prop}(h:p:=by
 have:=(List.getElem?_eq_some_iff.1 hm).1;simp at this;omega
 ):p:=h
theorem uZ{p:Prop}(h:p:=by
 exact fY.mk' rfl ((Below.refl _ _).alloc (KD _) _)
 ):p:=h
theorem zl{p:Prop}(h:p:=by
 exact Fr.low (M:=λb=>b=S.heap.size+1+1) ((ac.mono λ_ h=>h.elim).trans az) λk ap=>ad
 ):p:=h
theorem zm{p:Prop}(h:p:=by
 unfold heldBy;rw[f,show (hd.owner == th+1)=true by simpa using bE,decide_eq_true ⟨hm,aU⟩];rfl
 ):p:=h
theorem zn{p:Prop}(h:p:=by
 rcases H with H|H
 .rw[H] at O;exact .inl O
 .rw[H] at O;injection O with O;right;omega
 ):p:=h
theorem zo{p:Prop}(h:p:=by
 generalize (Value.agg (ar.val S))=Y;generalize (Value.slice A2 aP c2)=J;intro F;exact key az J Y _ F
 ):p:=h
theorem zp{p:Prop}(h:p:=by
 obtain⟨cd,rfl,h⟩:=h;rw[bm] at h;obtain⟨bv,rfl,h⟩:=h;rw[aP] at h;subst h;rfl
 ):p:=h
theorem zq{p:Prop}(h:p:=by
 cases j with
 | zero=>simp[oh] at bi;exact⟨rfl,bi.symm⟩
 | succ j=>simp[oh] at bi
 ):p:=h
theorem zr{p:Prop}(h:p:=by
 exact(lg.cons (.cons (.cons (.app (.cons (.nl (l:=[]) λa h=>by simp at h)))))).2 a bx
 ):p:=h
theorem va{p:Prop}(h:p:=by
 go_wp2;go_ret;exact⟨rfl,Ll.alloc _⟩
 ):p:=h
theorem zs{p:Prop}(h:p:=by
 simp only[VE.a9,VE.numOf,VE.bu] at *;go_wp2;go_ret;exact⟨ret_str b4.o,bq.o⟩
 ):p:=h
theorem zt{p:Prop}(h:p:=by
 by_cases ag:0<=bt X e/\0<=th
 .exact ag
 .rw[pL ag] at J;cases J
 ):p:=h
theorem zu{p:Prop}(h:p:=by
 have:=bf.2.2.1
 cases d with
 | zero=>exact this.elim
 | succ dh=>exact⟨dh,rfl⟩
 ):p:=h
theorem zv{p:Prop}(h:p:=by
 conv=>lhs;rw[<-db cg]
 simp only[ByteArray.append_assoc,ag];simp
 ):p:=h
theorem zw{p:Prop}(h:p:=by
 exact wB (q:=⟨bR,bV,bC,TA,tn,tc,HA,hn,hc⟩) cc.2.2 G.o bf.o
 ):p:=h
theorem zx{p:Prop}(h:p:=by
 unfold heldBy;rw[f,show (hd.owner == th+1)=false by simpa using bE];simp
 ):p:=h
theorem zy{p:Prop}(h:p:=by
 go_wp2;go_ret;exact⟨none,0,rfl,World.ownsRow_nil _ _ _ _,Below.refl _ _⟩
 ):p:=h
theorem zz{p:Prop}(h:p:=by
 simp only[an.eM,aA.decl,FJ,Ld];cases d<;>exact Iff.rfl
 ):p:=h
theorem zB{p:Prop}(h:p:=by
 intro x hx;obtain⟨j,bi⟩:=List.getElem?_of_mem hx;simpa using h j x bi
 ):p:=h
theorem zC{p:Prop}(h:p:=by
 exact kZ _ _ _ _ _ (by rw[mq];omega) (by rw[mq];omega)
 ):p:=h
theorem zD{p:Prop}(h:p:=by
 clear hm;go_wp2;go_ret;exact⟨ret_int (by rw[aW.o];rfl),aw.alloc _⟩
 ):p:=h
theorem G0{p:Prop}(h:p:=by
 unfold free;rw[decide_eq_true ⟨hm,h0⟩,f,P,L,Bool.true_and]
 ):p:=h
theorem zE{p:Prop}(h:p:=by
 rw[rh,<-List.append_assoc];exact KM.2 (.inl this)
 ):p:=h
theorem zF{p:Prop}(h:p:=by
 simp[go_sem];by_cases h:a=c<;>by_cases au:b=d<;>simp[h,au]
 ):p:=h
theorem zG{p:Prop}(h:p:=by
 simp only[c9,count_nil,bp,cC,eA];omega
 ):p:=h
theorem r7{p:Prop}(h:p:=by
 obtain⟨a8,am,aF⟩:=(ag.2.2.1.ai bm).two;clear hV bm b7 du dl;have dF:w.heap.size+2<V.heap.size:=ad;go_wp2_with(fail);refine(Fq P s t fs f ⟨bR,bV,bC,TA,tn,tc,HA,hn,hc⟩ V (cc.2.2.GD G.o (ag.1.trans bN.o)) (λb O=>KE (G.o b O) (ag.1.trans bN.o).size) l.sm db bU.2.1).mono ?_;rintro e bX ⟨⟨bL,cr,bc,ab,m,L,b1,co,a3⟩,O,lb,lc,hx,cN,cy,cp,dQ,aG,F1,F2,a4,rfl,a7,dy⟩;have bW:=ah a7 dy;have cO:=a7.size;clear a7 dy a8 am aF;dsimp only[SV.val];go_upto_region 5 with(fail);generalize hU:World.alloc _ _=U;have cl:=aX hU;have cY:=aK hU;have bS:=bW.2 U bX.heap.size cl cY (KD _);have dv:=bS.mB;have ck:=bS.gl;have cu:=bS.tl;have bG:=bS.hl;simp only at dv ck cu bG;subst dv;obtain⟨bj,k,flb,J,H,c0,c1,c2,c3,cm⟩:=bS.top;have aT:Ext V U:=bW.1.trans cl;have dP:=(bS.lo lb (by simp)).1;have bM:=cK bS aT ck cu bG;have ct:t<(co:Int):=by have:=bU.2.2.2.2;omega
 have dT:((fs.length:Nat):Int)<(lc:Int):=by have:=bS.l.cap;omega
 have dM:fs.length<=lc:=ad;obtain⟨e0,a6,aP⟩:=cY.two;clear hU cl cY bS aT ck cu bG bW;go_upto_region 8 with(fail);generalize hX:World.setCell _ _ _=X;have b4:RO P V.heap.size X {s with threads:=s.threads.set t.toNat (fs++[next f])} t.toNat fs (next f) bX.heap.size ⟨bL,cr,bc,ab,m,L,some ⟨O,0,none⟩,co,a3⟩ O lb lc hx cN cy cp dQ aG F1 F2 a4:=hX▸bM.1.pc (f.pc+1);have b8:=cJ hX;have cw:Ext V X:=Fr.low (M:=λb=>b=lb) (Fr.trans (Fr.mono bM.2.1 λ_ h=>h.elim) b8) λb O=>ad;have aY:=bN.trans cw;have aQ:=aD b4 cw aY;have dG:=cw.size;clear hX b8 e0 a6 aP c0 c1 c2 c3 H flb J bj k cm;obtain⟨bj,k,flb,J,H,c0,c1,c2,c3,cm⟩:=b4.top;obtain⟨a0,ai,af⟩:=(ag.2.1.ai aY).two;obtain⟨a8,am,aF⟩:=(ag.2.2.1.ai aY).two;obtain⟨d0,aL,aM⟩:=(bJ.ai cw).two;obtain⟨e0,a6,aP⟩:=b4.o.two;have dN:=(b4.lo bX.heap.size (by simp))
 exact r8
 ):p:=h
theorem r9{p:Prop}(h:p:=by
 have l:=ae h;have bU:=cK ao bv c6 ti qK;have dx:t<(hn:Int):=ad;have cc:=aD hu hs aC;obtain⟨G,cz⟩:=aH aZ cx;clear h ao cu bv c6 ti qK hu hs aC aZ cx;dsimp only[UV.val,SV.val];go_enter func10,ntmps10;go_upto_region 1 with(fail);generalize ba:World.alloc _ _=W;have aw:=lF ba;have bD:=jo ba;have b6:=ir ba;have cA:=jq ba;have ag:=cS aw bD b6 cA (cc.1.on aw) (cc.2.1.on aw);have cZ:=aw.size;have dr:=cA.lt;obtain⟨a0,ai,af⟩:=bD.two;obtain⟨a8,am,aF⟩:=b6.two;clear ba aw bD b6 cA;go_wp2_with(fail);refine(uq u s t f cq x W ⟨GA,gn,gc,MA,mn,mc,PA,pn,pc⟩ ⟨bR,bV,bC,TA,tn,tc,HA,hn,hc⟩ ⟨l.sm,l.ht,l.hp,l.hx,l.hF.proc,l.pc.1,l.il,l.kl,ag.2.2.2.2.1,ag.2.2.2.2.2⟩).mono ?_;rintro e aS ⟨⟨eo,en,es,EA,em,ec,QA,qm,qc,dg,j,c9,KA,dj,kc⟩,rfl,bI,aN⟩;have dl:=ah bI aN;clear a0 ai af a8 am aF bI aN;dsimp only[IV.val];go_upto_region 2 with(fail);generalize hV:World.alloc _ _=V;have b7:=aX hV;have du:=aK hV;have bm:Ext W V:=dl.2.trans b7;have dk:=bm.size;have ce:=du.lt;have dJ:=dl.2.size;have bN:=ae bm;have dD:=ae (dl.1.on b7);have bJ:=ae du;exact sa
 ):p:=h
theorem lG{p:Prop}(h:p:=by
 intro p bZ B bO bT ps V T ls N S L aw aZ QA cg qc bx aH av ba bq on b6 c1 cI b0 aR bv wr be cn cu cr m0 a7 bQ bK c2 bc cc aG bl b7 Q hQ0 hN K hK;intros
 obtain⟨s,wb,sA,bV,bC,sl,GA,gn,gc,MA,mn,mc,FA,fn,fc,M,F,ar⟩:=p;simp only at cI be cn cu;obtain⟨a0,ai,af⟩:=bQ.1.blk.two;obtain⟨a8,am,aF⟩:=bQ.2.1.two;obtain⟨d0,aL,aM⟩:=bQ.2.2.two;conv=>arg 2;whnf
 conv at hK=>enter [a,w,1,2];whnf
 exact lH
 ):p:=h
theorem G1{p:Prop}(h:p:=by
 refine oq ?_
 iterate 4 refine pf ?_
 refine aI rfl (λK hK=>?_);go_simp;refine(jK ⟨s,wb,sA,bV,bC,sl,GA,gn,gc,MA,mn,mc,FA,fn,fc,M,F,ar⟩ L aH av bi ba wr.drew ((bQ.1.ai be Ll.drew).wr a7.1) ((Sl.c8 a7.2.2.2.2.1 (bQ.1.ai be Ll.drew).fr).mono λb O=>⟨O.1,λh=>O.2 (.inl h)⟩) ad).mono ?_;rintro e aS ⟨x,cA,cj,cF,rfl,hx,aN,ca,h,he⟩;simp only at h he;have aj:Fr (λb=>b=s) wr aS:=Fr.aF he;have Z:=bQ.2.2.on aj ad;have aW:=hP (bQ.1.next be h aj) Z hx aN ca aj.size (bQ.2.1.on aj W);refine dz hK (he) ?_;clear hK K;clear Z hx aN ca h he aj a0 ai af a8 am aF d0 aL aM;refine ax rfl (λK hK=>?_);go_simp
 first
  | rw[j.2,show IntKind.i64.wrap ((i:Nat):Int)=((i:Nat):Int) from IntWalk.i64_in _ ad]
  | rw[j.2]
 refine(cc.2.2 L ad i 3 aH (T++decls ls) av bi ba aZ ps QA cg qc bx aS ad ad (aW.1.wr a7.1) (Sl.c8 a7.2.2.2.2.1 aW.1.fr) ad (λk ap=>cc.2.1 k ad) (Sl.c8 a7.2.2.1 aW.1.fr) bv).mono ?_;rintro e aT ⟨R,bJ,m,aO,bL,rfl,aB,dB,cp,ak,U⟩;have u:¬(S.heap.size=s\/S.heap.size=wb):=ad;have l:=aW.2.1.on U u;have aP:=aW.2.2.2.2.2.2.on U (λh=>by rcases h with h|h<;>(simp only at h;omega));have dD:bJ<=L:=aB.le;have bo:=hP (aW.1.Hp ak U) l aB dB cp U aP;clear aB dB cp ak U aP;obtain⟨d0,aL,aM⟩:=l.two;clear l;refine dO hK ?_;clear hK K;refine ax rfl (λK hK=>?_);go_simp;refine dO hK ?_;clear hK K;refine pf ?_;refine ax rfl (λK hK=>?_);go_simp;refine dO hK ?_;clear hK K;refine pf ?_;refine ax rfl (λK hK=>?_);go_simp;refine dO hK ?_;clear hK K;refine aE ?_;generalize hX:World.setCell _ _ _=X;have J:Fr (λb=>b=S.heap.size) aT X:=hX▸((((((Fr.refl (λb=>b=S.heap.size) aT).setCell (.inl rfl) _).setCell (.inl rfl) _).setCell (.inl rfl) _).setCell (.inl rfl) _).setCell (.inl rfl) _).setCell (.inl rfl) _;exact zH
 ):p:=h
theorem vb{p:Prop}(h:p:=by
 have aW:=ah (ag.2.2.2.1.ai bB.2.2) (ag.1.trans bB.2.2);have cE:=bB.2.2.size;obtain⟨bl,aA,aO⟩:=aW.1.two;obtain⟨e0,a6,aP⟩:=bB.2.1.two;go_wp2_with(fail);generalize hX:World.setCell _ _ _=Z;obtain⟨bh,a9,bd⟩:=bA (w:=w) [.slice bL cr bc,.slice ab m L,.slice (some ⟨O,0,none⟩) co a3,.int .i64 s.fault] (by rfl) aW.1 aW.2 ad hX;have bf:=ah a9 bd;clear hX a9 bd bl aA aO e0 a6 aP;obtain⟨bl,aA,aO⟩:=bh.two;refine Lk (v:=.tuple #[.agg #[.slice bL cr bc,.slice ab m L,.slice (some ⟨O,0,none⟩) co a3,.int .i64 s.fault],.bool true]) (by simp[results,Tryz.results10,go_sem,bl]) rfl ?_;exact vc
 ):p:=h
theorem zI{p:Prop}(h:p:=by
 rintro e aS ⟨rfl,ar⟩;refine dz hK (ar) ?_;clear hK K;refine br (v:=?_) rfl (by rfl) (λV=>?_) ?_;rotate_left
 .go_simp;exact ei
 try simp only[PU]
 refine br (v:=?_) rfl (by rfl) (λV=>?_) ?_;rotate_left
 .go_simp;exact ei
 try simp only[PU]
 exact zJ
 ):p:=h
theorem zK{p:Prop}(h:p:=by
 have b4:=bQ.2.2.lt;have I:∀b,wr.heap.size<=b->¬(b=s\/b=wb):=λb O h=>ad;have dF:S.heap.size<=aS.heap.size:=by have:=aW.2.2.2.2.2.1;omega
 have a4:Sl X (fresh S X) cA cj (x.args.map bk):=(aW.2.2.2.2.1.ak λb O=>(J.block b (lK O.2 bo.2.2.2.2.2.1.size) (by have:=O.1;have:wr.drew.heap.size=wr.heap.size:=rfl;omega)).trans (bo.2.2.2.2.2.1.block b O.2 (I b O.1))).mono λb O=>⟨by have:=O.1;have:wr.drew.heap.size=wr.heap.size:=rfl;omega,by have:=O.2;have:=bo.2.2.2.2.2.1.size;have:=J.size;omega⟩
 have cw:Sl X (fresh S X) m aO (c4 (.eM R)):=by
  exact GY
 have aY:Sl X (λb=>S.heap.size<b/\b<X.heap.size) cA cj (x.args.map bk):=(aW.2.2.2.2.1.ak λb O=>(J.block b (lK O.2 bo.2.2.2.2.2.1.size) (by have:=O.1;have:wr.drew.heap.size=wr.heap.size:=rfl;omega)).trans (bo.2.2.2.2.2.1.block b O.2 (I b O.1))).mono λb O=>⟨by have:=O.1;have:wr.drew.heap.size=wr.heap.size:=rfl;omega,by have:=O.2;have:=bo.2.2.2.2.2.1.size;have:=J.size;omega⟩
 have a5:Sl X (λb=>S.heap.size<b/\b<X.heap.size) m aO (c4 (.eM R)):=by
  exact GX
 have ao:=ah aY a5;clear aY a5;have ab:=bo.1.fresh a7.1 J λb O=>ad;have bp:=bo.2.2.2.2.2.2.on J ad;have aQ:=cK ab bz bp a4 cw;clear hX d0 aL aM J bz ab bp a4 cw;exact zL
 ):p:=h
theorem vd{p:Prop}(h:p:=by
 go_enter func142,ntmps142;go_upto_region 8 with(fail);generalize ba:World.alloc _ _=W;have aw:=iN ba;have bg:=gC ba;have cd:=ga ba;have a7:Lr (yZ w W g A n c T k deep (mS 0 ⟨#[]⟩ ⟨#[]⟩)):=ae ⟨H.ai aw,aw.mono λ_ h=>h.elim,bg,cd⟩;clear ba aw bg cd;go_wp2_with(fail);refine(show Calls prog 114 #[.pointer (some ⟨g,0,none⟩),.string ⟨#[118,97,114]⟩] W _ from dx [118,97,114] g A n c T k deep W a7.ps false (by first|exact bU.1|exact gu bU.1 (by decide)) (λh=>by first|omega|cases h)).mono ?_;rintro e aS ⟨rfl,aZ,hF⟩;have H1:=ae (a7.on ck (show cj aS g A n c T (k) deep from by simpa using aZ) hF);clear aZ hF;clear a7;go_wp2_with(fail);exact ve
 ):p:=h
theorem sb{p:Prop}(h:p:=by
 obtain⟨ao,db,cu,fs,bv,cd⟩:=h.th;have hs:=aC.ok aZ;obtain⟨GA,gn,gc,MA,mn,mc,PA,pn,pc⟩:=p;obtain⟨bR,bV,bC,TA,tn,tc,HA,hn,hc⟩:=q;have qK:hn=s.threads.length:=by have:=hs.at_.h.1;simpa using this.symm
 have c6:bV=s.globals.length:=by have:=hs.at_.g.1;simpa using this.symm
 have ti:tn=s.table.length:=by have:=hs.at_.t.1;simpa using this.symm
 have dm:hn<=1000:=by have:=h.sm.h;omega
 have dc:=h.pc;exact sc
 ):p:=h
theorem zM{p:Prop}(h:p:=by
 rintro r aS ⟨rfl,O⟩;by_cases hm:0<=bt X e
 case neg=>
  have aW:=ae (show free X T e th=false from pL ad);have aQ:bt X e<0:=ad;clear hm;exact tr
 obtain⟨k,m,hd,rfl,ap,d,f,P,bd⟩:=hT.at_ hm;rw[P];have cm:k<n2:=by have:=ht.1;omega
 have dH:m<n:=by have:=h.1;omega
 by_cases h0:0<=th
 case neg=>
  have aW:=ae (show free X T k th=false from pL ad);have j:th<0:=ad;clear h0 d f P;exact tr
 obtain⟨b,o,u,rfl,U,hx,c0,c1⟩:=(ht.ez O).hold cm;obtain rfl:hd=u:=by rw[d] at hx;injection hx
 obtain⟨K,M,mx,rfl,l,g,d0,d1,d2⟩:=(h.ez O).Iw dH;have bl:=hT.bound hd (KG d);have L:wo X m=mx.re:=by unfold wo;rw[KY,g];rfl
 have cb:free X T k th=(hd.owner == 0 || (hd.owner == th+1 && mx.re)):=by
  exact G0
 have aW:=ae cb;clear cb hx g d f P hm L;by_cases bn:hd.owner=0
 .have bM:=ae bn;exact GZ
 have cg:(hd.owner == 0)=false:=by simpa using bn
 exact zN
 ):p:=h
theorem zO{p:Prop}(h:p:=by
 refine qY (λb=>b=S.heap.size+1) [14] (.free 0 (.free 1 (.free 2 (.free 6 (.free 7 (.free 8 (.held 9 (.pick [3,10,13] (λi=>bif i == 3 then .held 4 (.free 5 (.pick [10,13] (λi=>bif i == 10 then .free 11 (.free 12 (.pick [13] (λ_=>.pick [14] (λ_=>.stop)))) else .pick [10] (λ_=>.free 11 (.free 12 (.pick [14] (λ_=>.stop))))))) else bif i == 10 then .free 11 (.pick [3,13] (λi=>bif i == 3 then .held 4 (.free 5 (.free 12 (.pick [13] (λ_=>.pick [14] (λ_=>.stop))))) else .pick [3] (λ_=>.held 4 (.free 5 (.free 12 (.pick [14] (λ_=>.stop))))))) else .pick [3,10] (λi=>bif i == 3 then .held 4 (.free 5 (.pick [10] (λ_=>.free 11 (.free 12 (.pick [14] (λ_=>.stop)))))) else .free 11 (.pick [3] (λ_=>.held 4 (.free 5 (.free 12 (.pick [14] (λ_=>.stop)))))))))))))))) ?_
 iterate 6 refine tf ?_
 refine mU ?_;clear a0 ai af;exact zP
 ):p:=h
theorem zQ{p:Prop}(h:p:=by
 rintro e bX ⟨⟨aZ,cr,bc,aV,m,L,be,co,a3⟩,rfl,bY,a7⟩;have c5:=ae bY;have cG:=(ag.2.2.2.2.1.ai bu.o).ai a7;have aW:=ah cG ((ag.1.trans bu.o).trans a7);clear bY a7 a8 am aF d0 aL aM;obtain⟨bl,aA,aO⟩:=cG.two;clear cG;go_wp2_with(fail);generalize hX:World.setCell _ _ _=Z;exact zR
 ):p:=h
theorem sd{p:Prop}(h:p:=by
 refine ax rfl (λK hK=>?_);go_simp;refine dO hK ?_;clear hK K;refine pf ?_;refine ax rfl (λK hK=>?_);go_simp;refine dO hK ?_;clear hK K;exact se
 ):p:=h
theorem eP{p:Prop}(h:p:=by
 refine ax rfl (λK hK=>?_);go_simp;refine dO hK ?_;clear hK K;refine aE ?_;exact dB
 ):p:=h
theorem o9{p:Prop}(h:p:=by
 obtain⟨I,bK,aJ,e,cj,hs⟩:=a1.1 a5;simp only[List.cons.injEq,Value.int.injEq,Value.string.injEq,Value.slice.injEq,and_true,true_and] at e;obtain⟨rfl,rfl,rfl,rfl,rfl,rfl⟩:=e;exact pa
 ):p:=h
theorem sf{p:Prop}(h:p:=by
 have aW:=ae (show decide (S=T)=false from decide_eq_false (λh=>be (by rw[<-hl,<-cg,h])));have v:(n != n2)=true:=by simpa using be
 have m:((n:Int) != (n2:Int))=true:=by simp;omega
 clear hl cg be;exact si
 ):p:=h
theorem hr{p:Prop}(h:p:=by
 obtain⟨GA,gn,gc,MA,mn,mc,PA,pn,pc⟩:=p;obtain⟨bR,bV,bC,TA,tn,tc,HA,hn,hc⟩:=q;exact hv
 ):p:=h
theorem zS{p:Prop}(h:p:=by
 have aw:Ext w (w.alloc (.cells #[.bool false,.int .i64 i,.slice (some ⟨b,o,none⟩) 1 pc] 55)):=Ll.alloc _;have c:aq (w.alloc (.cells #[.bool false,.int .i64 i,.slice (some ⟨b,o,none⟩) 1 pc] 55)) w.heap.size 55 #[.bool false,.int .i64 i,.slice (some ⟨b,o,none⟩) 1 pc]:=Lm;obtain⟨ar,F,cY,hm,T,e0,e1,e2,e3⟩:=h;obtain⟨hq,bn,bK,rfl,aU,aQ,f0,f1,f2⟩:=F.Jc cY;have P:bK=m:=by rw[hm] at aQ;injection aQ with h;exact h.symm
 subst P;exact zT
 ):p:=h
theorem fj{p:Prop}(h:p:=by
 refine ao ?_;refine bM rfl (λK hK=>?_) rfl;go_simp;refine dO hK ?_;clear hK K;exact eQ
 ):p:=h
theorem vf{p:Prop}(h:p:=by
 have d0:=Z 0 _ rfl;have d1:=Z 1 _ rfl;have d2:=Z 2 _ rfl;have d3:=Z 3 _ rfl;have d4:=Z 4 _ rfl;have d5:=Z 5 _ rfl;have d6:=Z 6 _ rfl;have d7:=Z 7 _ rfl;have d8:=Z 8 _ rfl;have d9:=Z 9 _ rfl;have d10:=Z 10 _ rfl;simp only[KN] at d0;exact vg
 ):p:=h
theorem sj{p:Prop}(h:p:=by
 obtain⟨cX,df,db,rfl,dc,cR⟩:=a1.1 Q;have c0:=Z 0 _ rfl;have c1:=Z 1 _ rfl;have c2:=Z 2 _ rfl;have c3:=Z 3 _ rfl;simp only[KN] at c0;have aV:b<wr.heap.size:=O;exact sk
 ):p:=h
theorem zU{p:Prop}(h:p:=by
 go_upto_region 1 with(fail);generalize ba:World.alloc _ _=W;have aw:=lF ba;have b6:=jo ba;have ce:=ir ba;have a5:=jq ba;have ag:=hP aw b6 ce a5 (hu.on aw) (hs.on aw) (D.on bv (Fr.ext aw));have x:=hT.on aw;obtain⟨a0,ai,af⟩:=b6.two;obtain⟨a8,am,aF⟩:=ce.two;obtain⟨d0,aL,aM⟩:=a5.two;have aa:=ae x;clear ba aw b6 ce a5 x hT hu hs bv a1 hS hU ht hp hx hF y r;go_wp2_with(fail);exact zV
 ):p:=h
theorem zW{p:Prop}(h:p:=by
 clear hX d0 aL aM HA;go_wp2_with(fail);refine(show Calls prog 141 #[.pointer (some ⟨g,0,none⟩),.string ⟨#[59]⟩] X _ from mL [59] g A n c T (k+1+1) deep X aQ.ps bU.2.2.2.2 ad).mono ?_;rintro e cA ⟨rfl,aZ,hF⟩;have bf:=ae (aQ.on ck aZ hF);clear aZ hF aQ;obtain⟨d0,aL,aM⟩:=bf.s.two;obtain⟨bl,aA,aO⟩:=bf.r.two;simp only[mS] at d0;go_wp2_with(fail);generalize hX:World.setCell _ _ _=V;exact zX
 ):p:=h
theorem zY{p:Prop}(h:p:=by
 clear bt;have de:=cj.size;go_wp2_with(fail);refine(oQ P s ⟨bR,bV,bC,TA,tn,tc,HA,hn,hc⟩ z cL (cc.2.2.GD G.o (ag.1.trans cj.o)) (λb O=>KE (G.o b O) (ag.1.trans cj.o).size)).mono ?_;rintro e c7 ⟨⟨ds,bn,bP,be,cg,bK,bQ,cG,ci⟩,rfl,bY,b0⟩;have f2:=b0.size;have c5:=ae bY;have aW:=ah (ag.2.2.2.1.ai (cj.trans b0)) ((ag.1.trans cj.o).trans b0);exact zZ
 ):p:=h
theorem z0{p:Prop}(h:p:=by
 obtain⟨n,nm,b,o,c,bs,Z,bA,E,cr,cy,cd,bv,T,O,hx,bb,e0,e1,e2,e3,b0,ct,a7,e7⟩:=h.rep;injection T with h0 T;injection T with ac T;injection T with au T;injection T with aU T;subst h0 ac au aU;clear T;have cx:=h.ok.1;have aI:lC w G L ng nl g l x [bs,Z,bA,E]:=⟨h.gs,h.ls,h.ok.2.1,hx⟩
 have j:lC w G L ng nl g l y [cr,cy,cd,bv]:=⟨h.gs,h.ls,h.ok.2.2,bb⟩
 exact z1
 ):p:=h
theorem vh{p:Prop}(h:p:=by
 have a2:=h.g;have hm:=h.m;have J:=h.f;have dv:p.globals.length=gn:=by rw[<-a2.1,KH]
 have lm:p.af.length=mn:=by rw[<-hm.1,KH]
 have lf:p.funcs.length=fn:=by rw[<-J.1,KH]
 exact vi
 ):p:=h
theorem G2{p:Prop}(h:p:=by
 generalize ct:World.setCell _ _ _=Y;obtain⟨bE,bG,bH⟩:=dU (M:=λb=>b=s) [.int .i64 x.a9,.int .i64 x.numOf,.string x.bu,.slice cA cj cF] (by rfl) b1.o bJ.2 (KD _) ct;obtain⟨bl,aA,aO⟩:=bE.two;exact z2
 ):p:=h
theorem z3{p:Prop}(h:p:=by
 refine(show Calls prog 114 #[.pointer (some ⟨g,0,none⟩),.string ⟨#[103,111]⟩] aS _ from dx [103,111] g A n c T k deep aS H1.ps false (by first|exact bU.1|exact gu bU.1 (by decide)) (λh=>by first|omega|cases h)).mono ?_;rintro e aT ⟨rfl,aZ,hF⟩;have bJ:=ae (H1.on ck (show cj aT g A n c T (k) deep from by simpa using aZ) hF);clear aZ hF;clear H1;go_wp2_with(fail);exact z4
 ):p:=h
theorem z5{p:Prop}(h:p:=by
 rintro e aS ⟨rfl,aZ,hF⟩;have H1:=aD aZ (Fr.trans (ag.2.1.mono λ_ h=>h.elim) hF) (ag.2.2.on hF ad);have ao:w.heap.size<aS.heap.size:=H1.2.2.lt;clear aZ hF;go_upto_region 2 with(fail);generalize hX:World.alloc _ _=X;have aw:=aX hX;have cA:=aK hX;have aQ:=bL (H1.1.ai aw) (H1.2.1.trans (aw.mono λ_ h=>h.elim)) (H1.2.2.ai aw) cA;clear hX aw cA H1 ag;go_wp2_with(fail);exact z6
 ):p:=h
theorem z7{p:Prop}(h:p:=by
 have bq:=ae (show ev g l (.bin op x y)=if (ev g l x).2≠0 then (0,(ev g l x).2) else if op=16/\(ev g l x).1=0 then (0,0) else if op=17/\(ev g l x).1≠0 then (1,0) else if (ev g l y).2≠0 then (0,(ev g l y).2) else if op=16\/op=17 then (fi ((ev g l y).1 != 0),0) else arith op (ev g l x).1 (ev g l y).1 from rfl);generalize ev g l x=r1 at *;obtain⟨v1,f1⟩:=r1;exact z8
 ):p:=h
theorem z9{p:Prop}(h:p:=by
 go_upto_region 1 with(fail);generalize ba:World.alloc _ _=W;have aw:=H5 ba;have b6:=FQ ba;have ce:=FR ba;have a5:=FT ba;have cA:=FU ba;have ag:=o5 aw b6 ce a5 cA (cc.1.on aw) (cc.2.1.on aw) (cc.2.2.on aw);obtain⟨a0,ai,af⟩:=b6.two;obtain⟨a8,am,aF⟩:=ce.two;obtain⟨d0,aL,aM⟩:=a5.two;clear ba aw b6 ce a5 cA cc;go_wp2_with(fail);exact Aa
 ):p:=h
theorem Ab{p:Prop}(h:p:=by
 refine qY (λ_=>False) [6,11] (.free 0 (.free 1 (.free 2 (.held 3 (.free 4 (.held 5 (.pick [6,10] (λi=>bif i == 6 then .free 7 (.free 8 (.free 9 (.pick [10] (λ_=>.pick [11] (λ_=>.free 12 (.stop)))))) else .pick [6] (λ_=>.free 7 (.free 8 (.free 9 (.pick [11] (λ_=>.free 12 (.stop)))))))))))))) ?_
 iterate 3 refine tf ?_
 refine th ?_;refine tf ?_;refine th ?_;exact Ac
 ):p:=h
theorem lI{p:Prop}(h:p:=by
 go_upto_region 1 with(fail);generalize ba:World.alloc _ _=W;have aw:=iN ba;have aR:=gC ba;have cA:=ga ba;exact lJ
 ):p:=h
theorem Ad{p:Prop}(h:p:=by
 have k:=λbt=>Dj (s:=s) (nl:=cq.locals) (nk:=f.au.length) aQ.1 aQ.2.2.1 (Int.le_refl _) aQ.2.2.2.2.2 j bt;have an:=x7 (u:=u) (s:=s) (f:=f) j;have o:=pB (u:=u) (s:=s) (f:=f) j;generalize cQ u s f pl=R at *;obtain⟨v,z⟩:=R;simp only at k an o;have bo:=aD k an o;exact Ae
 ):p:=h
theorem Af{p:Prop}(h:p:=by
 go_upto_region 1 with(fail);generalize ba:World.alloc _ _=W;have aw:=aX ba;have aR:aq W w.heap.size 53 #[.int .i64 0,.int .i64 0,.string ⟨#[]⟩,.slice none 0 0]:=ba▸aq.gz _ _ _ rfl;have ag:=bL (H.1.ai aw) (H.2.ai aw) (aw.mono (M':=λb=>b=s) λ_ h=>h.elim) aR;obtain⟨a0,ai,af⟩:=ag.1.blk.two;clear ba aw aR H;exact Ag
 ):p:=h
theorem Ah{p:Prop}(h:p:=by
 have cg:=ht.1;have cG:n2<=5000:=by have:=cA hX;have:=hT.len;omega
 have aI:=eZ X T e th;have hlen:(n2:Int)=elems X:=by rw[<-eu,<-hT.len,cg]
 generalize aR:cV X T e th=L at *;obtain⟨b1,b4⟩:=aH aR hlen;clear aR hlen;rw[cg] at aI;have I:=ae aI;clear aI;exact Ai
 ):p:=h
theorem Aj{p:Prop}(h:p:=by
 have o:bZ<X.heap.size:=KE Z bp.size;clear hX bp bz;go_upto_region 7 with(fail);generalize ct:World.alloc _ _=Y;have bG:=aX ct;have bE:=aK ct;have bB:=ae (aQ.1.trans bG);obtain⟨bs,aV,bu⟩:=(aQ.2.ai bG).two;obtain⟨cr,N,aF⟩:=bE.two;clear ct bG bE;go_wp2_with(fail);exact Ak
 ):p:=h
theorem pd{p:Prop}(h:p:=by
 try refine hN _ _ ?_
 unfold lE;refine⟨av,bi,ba,bq,on,b6,?_⟩
 iterate 240 apply Exists.intro
 refine⟨?_,rfl⟩;exact pe
 ):p:=h
theorem Al{p:Prop}(h:p:=by
 try simp only[PU]
 refine dm rfl (by rfl) ?_
 try simp only[PU]
 refine dm rfl (by rfl) ?_
 try simp only[PU]
 refine dm rfl (by rfl) ?_
 try simp only[PU]
 refine ib rfl (by rfl) ?_
 try simp only[PU]
 refine dm rfl (by rfl) ?_
 try simp only[PU]
 refine ib rfl (by rfl) ?_
 try simp only[PU]
 exact Am
 ):p:=h
theorem An{p:Prop}(h:p:=by
 generalize hV:World.alloc _ _=V;have L:=aX hV;have bu:=ae (bq.trans L);have G:=ae (b1.ai L);have hC:=aK hV;have bQ:=ae hC;have gL:=ae (cl.on (Fr.ext L));have dw:=ae (bl.on (Fr.ext L));clear hV a0 ai af c0 c1 c2 aV bq b1 L cl bl;obtain⟨a0,ai,af⟩:=hC.two;clear hC;exact Ao
 ):p:=h
theorem Ap{p:Prop}(h:p:=by
 obtain⟨len,hlen,an⟩:=h.ok;have hx:(∃e,x.expr=some e/\gf (bx u) cq.locals e)/\0<=x.target/\(x.op=1->x.dg=true->x.target<u.globals.length)/\(x.op=1->x.dg=false->x.target<f.ints.length):=by
  exact H7
 obtain⟨⟨ex,hex,aJ⟩,dw,bH,a1⟩:=hx;exact Aq
 ):p:=h
theorem vj{p:Prop}(h:p:=by
 have bH:l.length=n:=by have:=hl.1;simpa using this
 have ce:k.length=m:=by have:=ap.1;simpa using this
 have b4:=aD bH ce a1;have bo:=ah hl ap;clear bH ce a1 hl ap;exact vk
 ):p:=h
theorem Ar{p:Prop}(h:p:=by
 obtain⟨n,nm,b,o,c,bs,Z,bA,E,T,O,hx,e0,e1,e2,e3⟩:=h.rep;injection T with h0 T;injection T with ac T;injection T with au T;injection T with aU T;subst h0 ac au aU;clear T;have cx:=h.ok.1;have aI:lC w G L ng nl g l x [bs,Z,bA,E]:=⟨h.gs,h.ls,h.ok.2,hx⟩
 exact As
 ):p:=h
theorem vl{p:Prop}(h:p:=by
 unfold gI at h;rw[bI,fp] at h;obtain⟨y,rfl,h⟩:=h;obtain⟨x,cd,rfl,hx,bb⟩:=dD.1 h;unfold fV at hx;rw[bI,cp] at hx;obtain⟨z,rfl,hx⟩:=hx;exact vm
 ):p:=h
theorem At{p:Prop}(h:p:=by
 have dh:=bj 0 _ rfl;simp only[KN] at dh;have cv:=bj 1 _ rfl;have bO:=bj 2 _ rfl;have cV:=bj 3 _ rfl;have H:=bj 4 _ rfl;have b1:=bj 5 _ rfl;have cj:=bj 6 _ rfl;have cf:=bj 7 _ rfl;have ci:=bj 8 _ rfl;have ct:=bj 9 _ rfl;have bS:=bj 10 _ rfl;have bZ:=bj 11 _ rfl;exact Au
 ):p:=h
theorem sn{p:Prop}(h:p:=by
 have cY:gn<=16:=by have:=hp.nY;omega
 have cG:mn<=12:=by have:=hp.v8;omega
 have dK:fn<=16:=by have:=hp.DS;omega
 exact so
 ):p:=h
theorem Av{p:Prop}(h:p:=by
 obtain⟨hM,J,hG⟩:=h.own hX;obtain⟨GA,gn,gc,MA,mn,mc,FA,fn,fc,aR,cv,bO,cV,H⟩:=h.blk;refine⟨⟨⟨GA,gn,gc,MA,mn,mc,FA,fn,fc,?_,cv,bO,cV.cO hM,H.cO hM⟩,⟨h.base.1,KU h.base.2 hM.fr.size⟩,⟨h.names.1,h.names.2.cO hM⟩,hG⟩,hM⟩;exact Aw
 ):p:=h
theorem Ax{p:Prop}(h:p:=by
 have a9:=ae (show ev g l (.bin op x y)=if (ev g l y).2≠0 then (0,(ev g l y).2) else if op=16\/op=17 then (fi ((ev g l y).1 != 0),0) else arith op v1 (ev g l y).1 by rw[bq.o];simp only[bw.o,ne_eq,not_true_eq_false,if_false];rw[if_neg bx,if_neg bn]);exact Ay
 ):p:=h
theorem Az{p:Prop}(h:p:=by
 have ay:(0:Int)<(d:Int):=ad;obtain⟨i,aJ⟩:∃i,d=i+1:=⟨d - 1,ad⟩
 have aD:(d:Int) - 1=((i:Nat):Int):=ad;have bs:i<=1:=ad;have j:=ah aJ aD;clear aJ aD;have c3:¬wb=s:=ad;have W:¬bZ=s:=ad;exact AA
 ):p:=h
theorem AB{p:Prop}(h:p:=by
 by_cases aU:0<=th
 case neg=>
  have J:heldBy X T k th=false:=jX ad;have b9:=ae (no J);have bT:=ae J;have l:th<0:=ad;clear aU no J cg d f P hm;go_wp2
  go_ret2
  exact q2
 have bl:=hT.bound hd (KG d);exact AD
 ):p:=h
theorem pg{p:Prop}(h:p:=by
 go_upto_region 1 with(fail);generalize ba:World.alloc _ _=W;have aw:=iN ba;have bs:=gC ba;have bD:=ga ba;exact pj
 ):p:=h
theorem AE{p:Prop}(h:p:=by
 have bf:=ae a9;clear hX a9 bd bl aA aO a8 am aF;obtain⟨bl,aA,aO⟩:=bh.two;refine Lk (v:=.tuple #[.agg #[.slice bR bV bC,.slice TA tn tc,.slice HA hn hc,.int .i64 s.fault],.bool false]) (by simp[results,Tryz.results10,go_sem,bl]) rfl ?_;exact AF
 ):p:=h
theorem vn{p:Prop}(h:p:=by
 have ar:cN.length=fs.length*4:=by rw[D.hb _ _ h.fr,D.gT (z:=4) (λd hd=>by obtain⟨x,_,rfl⟩:=Lc.1 hd;rfl),KH]
 exact vo
 ):p:=h
theorem AG{p:Prop}(h:p:=by
 obtain⟨O,bn,ch,c5,n,fc,IA,i,ic,S,l,lc,e,hT⟩:=hs.at_.top a1 ht;simp only at e;subst e;obtain⟨hF,_,_⟩:=hS.top ht;have y:=hF.sM hp;have r:cU (bx u) cq.locals f.au.length pl:=by rw[y];exact hx
 rw[iw ht];exact AH
 ):p:=h
theorem AI{p:Prop}(h:p:=by
 refine eK (λ_=>False) [(0,3),(1,0),(2,3),(3,3),(4,3),(5,3),(6,3),(7,3),(8,3),(9,3),(10,2)] ?_;refine pf ?_;refine ph ?_
 iterate 5 refine pf ?_
 rw[show IntKind.i64.wrap ((fs.length:Nat):Int)=(fs.length:Int) from IntWalk.i64_in _ ad];exact AJ
 ):p:=h
theorem AK{p:Prop}(h:p:=by
 have bf:ch<wr.heap.size:=cw;have Z:bZ<wr.heap.size:=cI;have a1:=b4.2.2 f (KG G);have cm:x=f.ints.length:=by have:=aR.1;simpa using this.symm
 have ar:y=f.au.length:=by have:=cd.1;simpa using this.symm
 exact AL
 ):p:=h
theorem AM{p:Prop}(h:p:=by
 have a2:S.grownBy ab (Value.slice A n c).ownBlock:=⟨cV.os,cV.tape,cV.output,by have:=cV.size;simp at this;omega,λk ap be=>(cV.block k (by simp;omega) be).trans (Below.heap_alloc S _ k ap)⟩
 obtain⟨I,aJ,rfl,hc,_⟩:=b1 bO;exact AN
 ):p:=h
theorem vp{p:Prop}(h:p:=by
 refine dP ?_;refine ao ?_;refine bM rfl (λK hK=>?_) rfl;go_simp;generalize hV:World.alloc _ _=V;have aR:=aK hV;have bm:=aX hV;clear hV;exact vq
 ):p:=h
theorem AO{p:Prop}(h:p:=by
 rintro e bX ⟨ar,rfl,r,a7⟩;refine dz hK (a7) ?_;clear hK K
 iterate 3 refine tf ?_
 refine ao ?_;refine dP ?_;generalize bI:World.alloc _ _=Z;have e2:=aX bI;have aR:=aK bI;have s2:=a3.size;have T:=a7.size;have eD:=e2.size;exact AP
 ):p:=h
theorem AQ{p:Prop}(h:p:=by
 obtain⟨O,bn,ch,c5,n,fc,IA,i,ic,S,l,lc,e,hT⟩:=hs.at_.top a1 ht;simp only at e;subst e;obtain⟨pb,eX,N,co,b2,bK,v,e,dN,gs,dc,P,bF,bI,a4⟩:=hu.at_.code hp hx p0 b3;simp only at e;subst e;simp only at gs;exact AR
 ):p:=h
theorem AS{p:Prop}(h:p:=by
 have d0:=(f.cell (p:=⟨b,o,none⟩) O).trans e0;have d1:=(f.cell (p:=⟨b,o+1,none⟩) O).trans e1;have d2:=(f.cell (p:=⟨b,o+2,none⟩) O).trans e2;have d3:=(f.cell (p:=⟨b,o+3,none⟩) O).trans e3;exact AT
 ):p:=h
theorem AU{p:Prop}(h:p:=by
 go_wp2;refine eK (λ_=>False) [(0,3),(1,3),(2,3),(3,3),(4,0),(8,3),(9,0),(10,3),(11,3),(14,3),(5,1),(6,3),(7,3),(12,2),(13,3),(15,3),(16,3),(17,3)] ?_
 iterate 2 refine pf ?_
 refine br (v:=?_) rfl (by rfl) (λV=>?_) ?_;rotate_left
 .go_simp;exact ei
 try simp only[PU]
 refine pf ?_;refine ph ?_;refine pf ?_;refine ph ?_;refine pf ?_;refine br (v:=?_) rfl (by rfl) (λV=>?_) ?_;rotate_left
 .go_simp;exact ei
 try simp only[PU]
 refine pf ?_;refine aI rfl (λK hK=>?_);go_simp;refine(aQ.o _ _ _ _ _ _ _ (D.on be.o (Fr.ext Ll.drew)) f.o).mono ?_;rintro e aS ⟨rfl,ar⟩;refine dz hK (ar) ?_;clear hK K;refine br (v:=?_) rfl (by rfl) (λV=>?_) ?_;rotate_left
 .go_simp;exact ei
 try simp only[PU]
 refine br (v:=?_) rfl (by rfl) (λV=>?_) ?_;rotate_left
 .go_simp;exact ei
 try simp only[PU]
 refine ax rfl (λK hK=>?_);go_simp;rw[q.o];refine((show hj th from a5.th) (t+1) A2 n2 c2 _ M.o (Y.on (Fr.ext (Fr.aF ar))) I.o).mono ?_;rintro e aT ⟨rfl,bw⟩;refine dO hK ?_;clear hK K;refine br (v:=?_) rfl (by rfl) (λV=>?_) ?_;rotate_left
 .go_simp;exact ei
 try simp only[PU]
 refine br (v:=?_) rfl (by rfl) (λV=>?_) ?_;rotate_left
 .go_simp;exact ei
 try simp only[PU]
 refine br (v:=?_) rfl (by rfl) (λV=>?_) ?_;rotate_left
 .go_simp;exact ei
 try simp only[PU]
 refine pf ?_;refine aE ?_;have bu:=ae ((Fr.aF ar).trans bw);obtain⟨v0,ay⟩:=Fr.s6 bu.o;clear ar bw;exact w7
 ):p:=h
theorem AV{p:Prop}(h:p:=by
 rintro e aS ⟨rfl,ar⟩;refine dz hK (ar) ?_;clear hK K;refine br (v:=?_) rfl (by rfl) (λV=>?_) ?_;rotate_left
 .go_simp;exact ei
 try simp only[PU]
 refine br (v:=?_) rfl (by rfl) (λV=>?_) ?_;rotate_left
 .go_simp;exact ei
 try simp only[PU]
 exact Bb
 ):p:=h
theorem AW{p:Prop}(h:p:=by
 go_wp2_with(fail);generalize hX:World.setCell _ _ _=X;obtain⟨bz,bp,b5⟩:=bA (w:=w) [.int .i64 0,.int .i64 0,.slice none 0 0,.slice none 0 0] (by rfl) bq.2 bq.1 ad hX;have aQ:=ae bp;clear hX bp b5 a0 ai af bl aA aO a4;exact H6
 ):p:=h
theorem AX{p:Prop}(h:p:=by
 clear hx g hd;go_wp2;go_quiet (fail)
 go_wp2;go_roundw
 case rel=>
  refine⟨k+1,ad,by go_num,λj bi=>?_,dG O _⟩;by_cases z:j<k
  .exact aA.o j z
  .obtain rfl:j=k:=ad;exact aQ.o
 case measure=>exact aG
 ):p:=h
theorem AY{p:Prop}(h:p:=by
 obtain⟨bl,aA,aO⟩:=bz.two;refine Lk (v:=.tuple #[.agg #[.int .i64 0,.int .i64 0,.slice none 0 0,.slice none 0 0],.bool false]) (by simp[results,Tryz.results56,go_sem,bl]) rfl ?_;exact⟨rfl,aQ.o⟩
 ):p:=h
theorem AZ{p:Prop}(h:p:=by
 rw[bT.o];exact ff (B:=V.heap.size) bB.1 bf.2 (λb O=>⟨λhl=>by have:=G.o b hl;omega,ad⟩) (λb O=>by have:=G.o b O;omega) ad bf.1 (by rw[dZ bU.2.1])
 ):p:=h
theorem A0{p:Prop}(h:p:=by
 refine eK (λ_=>False) [(0,3),(1,3),(2,3),(3,0),(4,3),(5,0),(6,3),(7,3),(8,2)] ?_
 iterate 3 refine pf ?_
 refine ph ?_;refine pf ?_;refine ph ?_
 iterate 2 refine pf ?_
 exact eP
 ):p:=h
theorem A1{p:Prop}(h:p:=by
 refine eK (λb=>b=s) [(0,3),(1,3),(3,3),(4,0),(5,3),(6,3),(7,3),(9,3),(2,1),(8,2),(10,2),(11,3),(12,2),(13,3),(14,2)] ?_
 iterate 3 refine pf ?_
 exact G1
 ):p:=h
theorem A3{p:Prop}(h:p:=by
 go_wp2_with(fail);refine(aQ.o rs cc cI rc W X.o f.o).mono ?_;rintro e aS ⟨rfl,ar⟩;have bu:=ae ar;clear ar;exact w7
 ):p:=h
theorem sq{p:Prop}(h:p:=by
 refine dO hK ?_;clear hK K;refine pf ?_;exact eP
 ):p:=h
theorem A4{p:Prop}(h:p:=by
 obtain⟨e0,a6,aP⟩:=aR.two;have b1:=ae aR;clear a0 ai af h he aR hx aN ca;go_wp2_with(fail);exact G2
 ):p:=h
theorem A5{p:Prop}(h:p:=by
 by_cases bi:j<i
 .exact bq.2 j bi
 .rw[List.getElem?_eq_none (aC b4.1),List.getElem?_eq_none (aC b4.2.1)]
 ):p:=h
theorem A6{p:Prop}(h:p:=by
 clear hx g hd;go_wp2;go_quiet (fail)
 go_wp2;go_ret;exact⟨ret_bool (by rw[aW.o]),dG O _⟩
 ):p:=h
theorem A7{p:Prop}(h:p:=by
 go_wp2;go_roundw
 case rel=>exact⟨k+1,ad,by go_num,a4.o,br.o⟩
 case measure=>exact aG
 ):p:=h
theorem A8{p:Prop}(h:p:=by
 rintro aW az j eN ⟨ay,aj,bF,gr,bi⟩;obtain⟨bs,aV,bu⟩:=bF.two;exact fj
 ):p:=h
theorem A9{p:Prop}(h:p:=by
 have dX:O<cU.heap.size:=ad
 iterate 2 refine pf ?_
 exact eP
 ):p:=h
theorem Ba{p:Prop}(h:p:=by
 refine ph ?_;refine br (v:=?_) rfl (by rfl) (λV=>?_) ?_;rotate_left
 .go_simp;exact ei
 try simp only[PU]
 refine pf ?_;refine ph ?_;refine aI rfl (λK hK=>?_);go_simp;refine(aQ.o bU n1 c1 _ (Q.on (Fr.ext Ll.drew)) f.o U.o).mono ?_;exact AV
 ):p:=h
theorem Bb{p:Prop}(h:p:=by
 refine pf ?_;refine aE ?_;have bu:=ae (Fr.aF ar);clear ar;exact w7
 ):p:=h
end Go.Proofs.YtglbpimocmhojaaGreat
