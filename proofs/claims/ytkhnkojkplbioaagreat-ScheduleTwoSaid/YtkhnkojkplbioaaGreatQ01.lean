/- Part 1 of the proof. No condition of its own. -/
import Derived.BigQuiet
import Derived.Deep.Cut
import Derived.Deep.DrawnRows
import Derived.Deep.Draws
import Derived.Deep.QuietTactic
import Derived.Deep.RegionHeld3
import Derived.Handy
import Derived.IntWalk
import Derived.Laws.CopyOwn
import Derived.Laws.IdiomStrings
import Derived.Laws.StructEq
import Derived.Lib.Bytes
import Derived.Lib.SlBytesRow
import Derived.Maps.AppendAt
import Derived.OrdersHeld
import Derived.RegionTactic
import Derived.StillTail
import Derived.Test.YtkhnkojkplbioaaGreatRows
import Derived.WalkKit
import Derived.WalkLawsBesides
import Derived.WalkSpells
import Derived.Test.YtkhnkojkplbioaaGreatQ00
namespace Go.Proofs.YtkhnkojkplbioaaGreat
open Go.RowKit Go.Proofs.Tryz
set_option maxRecDepth 1000000
set_option maxHeartbeats 25600000
set_option linter.unusedVariables false
theorem Lk:type_of% @Nat.le_refl:=@Nat.le_refl
theorem Ll:type_of% @Nat.lt_of_lt_of_le:=@Nat.lt_of_lt_of_le
theorem Lm:type_of% @List.length_append:=@List.length_append
theorem Ln:type_of% @List.mem_of_getElem?:=@List.mem_of_getElem?
theorem Lo:type_of% @List.length_map:=@List.length_map
theorem Lp:type_of% @Int.eq_ofNat_of_zero_le:=@Int.eq_ofNat_of_zero_le
theorem Lq:type_of% @List.map_cons:=@List.map_cons
theorem Lr:type_of% @List.map_append:=@List.map_append
theorem Ls:type_of% @List.take_of_length_le:=@List.take_of_length_le
theorem Lt:type_of% @List.mem_append:=@List.mem_append
theorem Lu:type_of% @Nat.add_zero:=@Nat.add_zero
theorem Lv:type_of% @List.length_singleton:=@List.length_singleton
theorem Lw:type_of% @Bool.and_eq_true:=@Bool.and_eq_true
theorem Lx:type_of% @List.length_cons:=@List.length_cons
theorem Ly:type_of% @List.append_assoc:=@List.append_assoc
theorem Lz:type_of% @List.cons_append:=@List.cons_append
theorem LC:type_of% @List.mem_cons:=@List.mem_cons
theorem LD:type_of% @Nat.le_trans:=@Nat.le_trans
theorem LF:type_of% @Nat.zero_add:=@Nat.zero_add
theorem LG:type_of% @List.length_nil:=@List.length_nil
theorem LH:type_of% @List.flatMap_cons:=@List.flatMap_cons
theorem LI:type_of% @Int.toNat_natCast:=@Int.toNat_natCast
theorem LJ:type_of% @Nat.zero_le:=@Nat.zero_le
theorem LK:type_of% @List.map_nil:=@List.map_nil
theorem LL:type_of% @List.mem_map:=@List.mem_map
theorem LM:type_of% @List.append_nil:=@List.append_nil
theorem LN:type_of% @List.nil_append:=@List.nil_append
theorem LO:type_of% @List.mem_singleton:=@List.mem_singleton
theorem LP:type_of% @Option.some.injEq:=@Option.some.injEq
theorem LQ:type_of% @List.drop_eq_nil_of_le:=@List.drop_eq_nil_of_le
theorem LR:type_of% @decide_eq_true_eq:=@decide_eq_true_eq
theorem LS:type_of% @Bool.false_eq_true:=@Bool.false_eq_true
theorem LU:type_of% @bodyPost_ret:=@bodyPost_ret
theorem LW{M:Nat->Prop}{w:World}:Fr M w w:=Fr.refl _ _
theorem LX{w:World}{t:TypeId}{cs:Array Value}:aq (w.alloc (.cells cs t)) w.heap.size t cs:=aq.new _ _ _
theorem ad{p:Prop}(h:p:=by omega):p:=h
theorem aD{p q:Prop}(x:q)(h:q->p:=by intro this;omega):p:=h x
theorem lY{p q r:Prop}(x:q)(y:r)(h:q->r->p:=by intro this this;omega):p:=h x y
theorem aJ{A B:Prop}(a:A)(b:B):L5 A/\L5 B:=⟨ae a,ae b⟩
theorem ek{A B C:Prop}(a:A)(b:B)(c:C):L5 A/\L5 B/\L5 C:=⟨ae a,ae b,ae c⟩
theorem iX{A B C D:Prop}(a:A)(b:B)(c:C)(d:D):L5 A/\L5 B/\L5 C/\L5 D:=⟨ae a,ae b,ae c,ae d⟩
theorem Dp{A B C D E:Prop}(a:A)(b:B)(c:C)(d:D)(e:E):L5 A/\L5 B/\L5 C/\L5 D/\L5 E:=⟨ae a,ae b,ae c,ae d,ae e⟩
theorem DF{A B C D E F G:Prop}(a:A)(b:B)(c:C)(d:D)(e:E)(f:F)(g:G):L5 A/\L5 B/\L5 C/\L5 D/\L5 E/\L5 F/\L5 G:=⟨ae a,ae b,ae c,ae d,ae e,ae f,ae g⟩
theorem aH{p:Prop}(h:p:=by simp[intOf];omega):p:=h
theorem ag{A B:Prop}(a:A)(b:B):L5 (A/\B):=ae ⟨a,b⟩
theorem aE{A B C:Prop}(a:A)(b:B)(c:C):L5 (A/\B/\C):=ae ⟨a,b,c⟩
theorem bJ{A B C D:Prop}(a:A)(b:B)(c:C)(d:D):L5 (A/\B/\C/\D):=ae ⟨a,b,c,d⟩
theorem cJ{A B C D E:Prop}(a:A)(b:B)(c:C)(d:D)(e:E):L5 (A/\B/\C/\D/\E):=ae ⟨a,b,c,d,e⟩
theorem cH{A B C D E F:Prop}(a:A)(b:B)(c:C)(d:D)(e:E)(f:F):L5 (A/\B/\C/\D/\E/\F):=ae ⟨a,b,c,d,e,f⟩
theorem h2{A B C D E F G:Prop}(a:A)(b:B)(c:C)(d:D)(e:E)(f:F)(g:G):L5 (A/\B/\C/\D/\E/\F/\G):=ae ⟨a,b,c,d,e,f,g⟩
theorem pH{A B C D E F G H:Prop}(a:A)(b:B)(c:C)(d:D)(e:E)(f:F)(g:G)(h:H):L5 (A/\B/\C/\D/\E/\F/\G/\H):=ae ⟨a,b,c,d,e,f,g,h⟩
theorem xK{A B C D E F G H I:Prop}(a:A)(b:B)(c:C)(d:D)(e:E)(f:F)(g:G)(h:H)(i:I):L5 (A/\B/\C/\D/\E/\F/\G/\H/\I):=ae ⟨a,b,c,d,e,f,g,h,i⟩
theorem Af{A B C D E F G H I J:Prop}(a:A)(b:B)(c:C)(d:D)(e:E)(f:F)(g:G)(h:H)(i:I)(j:J):L5 (A/\B/\C/\D/\E/\F/\G/\H/\I/\J):=ae ⟨a,b,c,d,e,f,g,h,i,j⟩
theorem aW{w W:World}{o1:Obj}(h:w.alloc o1=W):Ext w W:=by subst h;exact LW.alloc _
theorem iS{w W:World}{o1 fg:Obj}(h:(w.alloc o1).alloc fg=W):Ext w W:=by subst h;exact(LW.alloc _).alloc _
theorem lC{w W:World}{o1 fg o3:Obj}(h:((w.alloc o1).alloc fg).alloc o3=W):Ext w W:=by subst h;exact((LW.alloc _).alloc _).alloc _
theorem IZ{w W:World}{o1 fg o3 o4:Obj}(h:(((w.alloc o1).alloc fg).alloc o3).alloc o4=W):Ext w W:=by subst h;exact(((LW.alloc _).alloc _).alloc _).alloc _
theorem aI{w W:World}{t:TypeId}{cs:Array Value}(h:w.alloc (.cells cs t)=W):aq W (w.heap.size) t cs:=by subst h;exact LX
theorem gG{w W:World}{fg:Obj}{t:TypeId}{cs:Array Value}(h:(w.alloc (.cells cs t)).alloc fg=W):aq W (w.heap.size) t cs:=by subst h;exact(LX).alloc _
theorem gf{w W:World}{o1:Obj}{t:TypeId}{cs:Array Value}(h:(w.alloc o1).alloc (.cells cs t)=W):aq W (w.heap.size+1) t cs:=by subst h;exact aq.gC _ _ _ (by simp)
theorem jw{w W:World}{fg o3:Obj}{t:TypeId}{cs:Array Value}(h:((w.alloc (.cells cs t)).alloc fg).alloc o3=W):aq W (w.heap.size) t cs:=by subst h;exact((LX).alloc _).alloc _
theorem h1{w W:World}{o1 o3:Obj}{t:TypeId}{cs:Array Value}(h:((w.alloc o1).alloc (.cells cs t)).alloc o3=W):aq W (w.heap.size+1) t cs:=by subst h;exact(aq.gC _ _ _ (by simp)).alloc _
theorem jx{w W:World}{o1 fg:Obj}{t:TypeId}{cs:Array Value}(h:((w.alloc o1).alloc fg).alloc (.cells cs t)=W):aq W (w.heap.size+2) t cs:=by subst h;exact aq.gC _ _ _ (by simp)
theorem HI{w W:World}{o1 fg:Obj}{t:TypeId}{cs:Array Value}(h:((w.alloc o1).alloc fg).alloc (.cells cs t)=W):aq W (w.heap.size+1+1) t cs:=by subst h;exact aq.gC _ _ _ (by simp)
theorem GI{w W:World}{fg o3 o4:Obj}{t:TypeId}{cs:Array Value}(h:(((w.alloc (.cells cs t)).alloc fg).alloc o3).alloc o4=W):aq W (w.heap.size) t cs:=by subst h;exact(((LX).alloc _).alloc _).alloc _
theorem GJ{w W:World}{o1 o3 o4:Obj}{t:TypeId}{cs:Array Value}(h:(((w.alloc o1).alloc (.cells cs t)).alloc o3).alloc o4=W):aq W (w.heap.size+1) t cs:=by subst h;exact((aq.gC _ _ _ (by simp)).alloc _).alloc _
theorem GK{w W:World}{o1 fg o4:Obj}{t:TypeId}{cs:Array Value}(h:(((w.alloc o1).alloc fg).alloc (.cells cs t)).alloc o4=W):aq W (w.heap.size+2) t cs:=by subst h;exact(aq.gC _ _ _ (by simp)).alloc _
theorem GL{w W:World}{o1 fg o3:Obj}{t:TypeId}{cs:Array Value}(h:(((w.alloc o1).alloc fg).alloc o3).alloc (.cells cs t)=W):aq W (w.heap.size+3) t cs:=by subst h;exact aq.gC _ _ _ (by simp)
theorem gK{w W:World}{o1:Obj}(h:(w.alloc o1).drew=W):Ext w W:=by subst h;exact(LW.alloc _).drew
theorem kx{w W:World}{t:TypeId}{cs:Array Value}(h:(w.alloc (.cells cs t)).drew=W):aq W (w.heap.size) t cs:=by subst h;exact(LX).drew
theorem cO{w X:World}{g o:Nat}{v:Value}(h:w.setCell ⟨g,o,none⟩ v=X):Fr (λb=>b=g) w X:=by subst h;exact(Fr.refl (λb=>b=g) w).setCell (.inl rfl) _
theorem FC{w X:World}{g o p:Nat}{v u:Value}(h:(w.setCell ⟨g,o,none⟩ v).setCell ⟨g,p,none⟩ u=X):Fr (λb=>b=g) w X:=by subst h;exact((Fr.refl (λb=>b=g) w).setCell (.inl rfl) _).setCell (.inl rfl) _
theorem GM{p:Prop}(h:p:=by
 have bX:=ae (S.o cd);clear S cu;go_wp2_with(fail);refine(fK s bU TA HA bW bE tn tc hn hc aU (ah.2.2.2.2.2.2.1.on aX.o).at_ aQ.sm).mono ?_;rintro e b6 ⟨bF,a5,a1,L,bf,aZ,xs,F1,F2,bT,b2,rfl,ch,bB,a4⟩;have bP:=aE ch bB a4;have cQ:=a4.size;clear ch bB a4 a7 am aF d0 aL aM;go_upto_region 13 with(fail);generalize hV:World.alloc _ _=V;have bm:=aW hV;have b7:=aI hV;have hOut:dC aS.heap.size V s b6.heap.size ⟨bF,bW,a5,a1,tn,L,bf,hn,aZ⟩ xs F1 F2 bT b2:=
  ⟨bP.1.al λb O=>bm.block b (bP.2.1 b O).2 λh=>h,b7,λO=>by have:=(bP.2.1 _ O).2;omega,λb O=>⟨by have:=(bP.2.1 b O).1;omega,by have:=(bP.2.1 b O).2;have:=bm.size;omega⟩,ad⟩
 have r:Ext W V:=(aX.trans bP.2.2).trans bm;have k:V.ownsRow 0 123 2 (.slice I tn aK) tn (T.flatMap bK):=hh (b3 (b3 aa.1 (Fr.ext bP.2.2)) (Fr.ext bm)) (LJ _);have l:∀b∈bt I tn aK,aS.heap.size<=b/\b<aU.heap.size:=λb O=>aa.1.lt b (by simpa using O);have ce:=bJ hOut r k l;obtain⟨e0,a6,aP⟩:=hOut.o.two;clear hV bm b7 hOut r k l;go_upto_region 14 with(fail);generalize hX:World.setCell _ _ _=X;have ck:dC aS.heap.size X {s with table:=T} b6.heap.size ⟨bF,bW,a5,I,tn,aK,bf,hn,aZ⟩ xs F1 (bt I tn aK) bT b2:=
  ce.1.Hv ce.2.2.1 aa.2 (λb O=>⟨λhm=>by have:=(bP.2.1 b hm).1;have:=(ce.2.2.2 b O).2;omega,by have:=(ce.2.2.2 b O).2;omega,(ce.2.2.2 b O).1⟩) hX
 have b5:=cO hX;have a2:Ext W X:=Fr.low (M:=λb=>b=b6.heap.size) (Fr.trans (Fr.mono ce.2.1 λ_ h=>h.elim) b5) λb O=>ad;obtain⟨bV,c0,i2,c6,dh,cP,dl,c3,bc,aH,J⟩:=ck.top (fs:=fs) (f:=f) bZ.2.2.1 bZ.2.1 bZ.1 bZ.2.2.2.1;have av:=aE aH J a2;clear e0 a6 aP;obtain⟨e0,a6,aP⟩:=ck.o.two;clear hX ck b5 a2 aH J c3 bc;go_wp2_with(fail);refine(av.1 X LW).mono ?_;rintro e cK ⟨rfl,co⟩;have P:=ae (av.2.1 cK co);have cc:=ae (av.2.2.trans co);clear e0 a6 aP co;have cb:=P.c1;have g2:=P.fz;have cT:=P.lt;have da:=cq.2.2.1;go_upto_region 15 with(fail);generalize hX:World.setCell _ _ _=Y;have bO:sE aS.heap.size Y {s with table:=T,threads:=s.threads.set t.toNat (fs++[next f])} b6.heap.size ⟨bF,bW,a5,I,tn,aK,bf,hn,aZ⟩ xs F1 (bt I tn aK) bT b2 t fs (next f) bV c0 i2 c6 dh cP dl:=hX▸P.JA bZ.2.2.1 (f.pc+1);have ar:=cO hX;have dG:=P.ge;have bn:Ext W Y:=Fr.low (M:=λb=>b=bV) (Fr.trans (Fr.mono cc.o λ_ h=>h.elim) ar) λb O=>ad;have bu:=aE bO.oz (ah.2.2.2.2.1.aj bn) (ah.1.trans bn);obtain⟨bl,aA,aO⟩:=bu.2.1.two;obtain⟨e0,a6,aP⟩:=bO.oz.o.two;clear hX bO ar bn cb g2 cT P;go_wp2_with(fail);generalize hX:World.setCell _ _ _=Z;obtain⟨bk,bd,bg⟩:=bw (w:=w) [.slice bF bW a5,.slice I tn aK,.slice bf hn aZ,.int .i64 s.fault] (by rfl) bu.2.1 bu.2.2 ad hX;have i:=ag bd bg;clear hX bd bg bl aA aO e0 a6 aP;obtain⟨bl,aA,aO⟩:=bk.two;refine LU (v:=.tuple #[.agg #[.slice bF bW a5,.slice I tn aK,.slice bf hn aZ,.int .i64 s.fault],.bool true]) (by simp[results,Tryz.results53,go_sem,bl]) rfl ?_;rw[bX.o]
 show cV mW w {aT s t (next f) with table:=T} true _ _
 exact gX (Q:={aT s t (next f) with table:=T}) (q:=⟨bF,bW,a5,I,tn,aK,bf,hn,aZ⟩) bu.1 i.2 (λb O=>ad) ad i.1 (by rw[eh bZ.2.2.1])
 ):p:=h
theorem ep{p:Prop}(h:p:=by
 rw[if_neg (by first|omega|(simp only[ByteArray.size_append];omega)|(simp;omega))]
 ):p:=h
theorem GN{p:Prop}(h:p:=by
 go_upto_region 31 with(fail);refine eC (λ_=>False) [(0,3),(1,3),(2,3),(3,3),(4,3),(5,0),(6,0),(7,1),(8,2),(9,3),(10,3),(11,3),(12,2)] ?_
 iterate 5 refine pf ?_
 iterate 2 refine ph ?_
 refine rz ?_;generalize bF:World.drew (World.alloc _ _)=Z;have bd:=gK bF;have bk:=kx bF;have bl:=hz.next (hz.src.cS bd λ_ _ h=>h) (bd.mono λ_ h=>h.elim);have bG:=bX.2.2.2.aj bd;have hd:∀b,(Value.slice FA i fc).ownBlock=some b->u<=b/\b<cK.heap.size:=λb O=>cq.fs.lt O;have iv:=cq.hD;have cm:Sl Z (lL (λb=>u<=b) Z (.slice FA i fc)) PA pn (ps.map dv):=bG.sl (λb _ h=>h.elim) (λb O aR=>⟨ad,O,λh=>by have:=(hd b h).2;omega⟩);have iu:cK.heap.size<=Z.heap.size:=by have:=bX.2.1.size;have:=bd.size;omega
 have bh:=bJ bl bk cm bX.2.2.2.cap.1;have h4:=ae hd;have iw:=cq.blk.lt;clear bF bd bk bl bG cm hd a0 aj af f0 dL dO;refine ax rfl (λK hK=>?_);rw[if_pos (by rfl)];refine fa HR (.tmp 177) (.tmp 179) (by rfl) bh.1.fs bh.2.1 (Gm bh.2.2.2 bh.2.2.1) (by rfl) (by rfl) (by rfl) ad ad ad ?_;intro hZ hU fn bM T cR cI;have ba:=bh.1.blk.on T (λO=>by have:=(h4.o _ O).1;omega);have a4:=ag bM T;clear bM T cR cI;obtain⟨a0,aj,af⟩:=ba.two;clear ba;refine dP hK ?_;clear hK K
 iterate 3 refine pf ?_
 refine ax rfl (λK hK=>?_);go_simp;refine dP hK ?_;clear hK K;refine aC ?_;generalize cl:World.setCell _ _ _=gR;obtain⟨bn,bq,gu⟩:=h5.o;have f:=bh.1.add a4.1 a4.2 ad (cq.JO.snoc cg bq gu gO.1);rw[cl] at f;have bN:=ae f;clear cl f a0 aj af gu;go_wp2_with(fail);go_roundw
 case rel=>exact⟨i+1,hZ,hU,F++[⟨jE i,ps,.nil⟩],by go_num,ad,bN.o⟩
 case measure=>exact aH
 ):p:=h
theorem GO{p:Prop}(h:p:=by
 go_upto_region 24 with(fail);generalize aX:World.alloc _ _=A;have n:=aW aX;have bt:=aI aX;have r:=cc.trans n;have y:=aE (RO.aj aQ.1 r) (aQ.2.1.trans r) (aQ.2.2.trans r);have Y:=ag bt n;have bo:=n.size;have dC:=cc.size;have T:=ae y.2.2;clear aX n r;obtain⟨a7,am,aF⟩:=(ah.2.2.1.aj y.2.2).two;obtain⟨d0,aL,aM⟩:=(bJ.aj y.2.1).two;obtain⟨e0,a6,aP⟩:=y.1.o.two;obtain⟨a8,k,flb,J,H,c0,c1,c2,c3,bH⟩:=y.1.top;obtain⟨f0,dL,dO⟩:=bt.two;clear bt;have dh:=T.size;go_wp2_with(fail);refine(pw P s ⟨bU,bW,bE,TA,tn,tc,HA,hn,hc⟩ z A (ce.2.2.Ho G.o (ah.1.trans T.o)) (λb O=>Ll (G.o b O) (ah.1.trans T.o).size)).mono ?_;rintro e c7 ⟨⟨cE,bT,bY,bf,b2,bn,bV,cP,ca⟩,rfl,bM,b0⟩;have f2:=b0.size;have c8:=ae bM;have a3:=ag (ah.2.2.2.1.aj (T.trans b0)) ((ah.1.trans T.o).trans b0);clear bM b0 f0 dL dO d0 aL aM e0 a6 aP c0 c1 c2 c3 H flb J a8 k bH a7 am aF;obtain⟨bl,aA,aO⟩:=a3.1.two;go_wp2_with(fail);generalize hX:World.setCell _ _ _=Z;obtain⟨bk,bd,bg⟩:=bw (w:=w) [.slice cE bT bY,.slice bf b2 bn,.slice bV cP ca,.int .i64 z] (by rfl) a3.1 a3.2 ad hX;have bh:=ag bd bg;clear hX bd bg bl aA aO;obtain⟨bl,aA,aO⟩:=bk.two;refine LU (v:=.tuple #[.agg #[.slice cE bT bY,.slice bf b2 bn,.slice bV cP ca,.int .i64 z],.bool true]) (by simp[results,Tryz.results19,go_sem,bl]) rfl ?_;rw[bX.o];exact fi (B:=A.heap.size) (Q:={s with fault:=z}) c8.o bh.2 (λb O=>⟨λhl=>by have:=G.o b hl;omega,ad⟩) (λb O=>by have:=G.o b O;omega) ad bh.1 rfl
 ):p:=h
theorem GP{p:Prop}(h:p:=by
 rintro r aS ⟨rfl,b1⟩;have aN:Ext w aS:=aw.trans (Fr.of b1);obtain⟨p0,bf,dS⟩:=(c.aj (Fr.of b1)).two;have gM:=(aN.cell (j:=bE+i*3+2) cc (λh=>h)).trans f2;have bx:=ae aN;clear aw aN c e0 e1 e2 e3 f0 f1 f2 c8 cv b1;generalize ev g l e=r at *;obtain⟨v,f⟩:=r;by_cases J:f=0
 case neg=>
  have q5:(f != 0)=true:=by simpa using J
  have ck:=ae (show idx bP.size (v,f)=(0,f) by unfold idx;rw[if_pos J]);clear J;go_wp2
  go_ret2
  exact gb.mk' ck.o (Fr.ext bx.o)
 have q5:(f != 0)=false:=by simpa using J
 by_cases bG:v<0
 .have dk:decide (v<0)=true:=by simpa using bG
  have ck:=ae (show idx bP.size (v,f)=(0,2) by unfold idx;rw[if_neg (by simpa using J),if_pos (.inl bG)]);clear J bG;go_wp2
  go_ret2
  exact gb.mk' ck.o (Fr.ext bx.o)
 have dk:decide (v<0)=false:=by simpa using bG
 by_cases u:bP.size<=v
 .have q7:decide (v>=bP.size)=true:=by simpa using u
  have ck:=ae (show idx bP.size (v,f)=(0,2) by unfold idx;rw[if_neg (by simpa using J),if_pos (.inr u)]);clear J bG u;go_wp2
  go_ret2
  exact gb.mk' ck.o (Fr.ext bx.o)
 .have q7:decide (v>=bP.size)=false:=by simpa using u
  have ck:=ae (show idx bP.size (v,f)=(v,0) by unfold idx;rw[if_neg (by simpa using J),if_neg ad]);clear J bG u;go_wp2
  go_ret2
  exact gb.mk' ck.o (Fr.ext bx.o)
 ):p:=h
theorem DG{p:Prop}(h:p:=by
 rintro e aU ⟨bb,rfl,U,aZ⟩;have bc:=ag U (bo.1.trans aZ);clear U aZ
 cases bb with
 | true=>
  go_wp2_with(fail);go_ret
  exact⟨(i:Int),rfl,⟨λ_=>⟨_,Ln bZ.o,bc.1.1 (by first|rfl|trivial)⟩,λ_=>ad⟩,bc.2⟩
 | false=>
  go_wp2_with(fail);go_roundw
  case rel=>
   refine⟨i+1,by go_num,ad,bc.2,λj x bi hx=>?_⟩;by_cases az:j<i
   .exact bo.2 j x az hx
   .obtain rfl:j=i:=ad;rw[bZ.o] at hx;injection hx with hx;subst hx;exact λh=>by have:=bc.1.2 h;first|cases this|exact this
  case measure=>exact aH
 ):p:=h
theorem xL{p:Prop}(h:p:=by
 go_wp2;go_roundw
 case rel=>exact⟨k+1,ad,by go_num,by rw[<-aL.o],bo.trans (L.trans bx.o)⟩
 case measure=>exact aH
 ):p:=h
theorem GQ{p:Prop}(h:p:=by
 by_cases cI:hd.depth - 1=0
 .have E:(hd.depth - 1 == 0)=true:=by simpa using cI
  have z:=ae cI;clear cI;go_wp2
  go_ret2
  refine gJ.mk' (A:=some ⟨g,0,none⟩) (c:=c1) (n:=n2) I.o ?_ ?_ bX.o
  .rw[b8.o,down,if_pos z.o];have a1:(T.set k ⟨hd.owner,hd.depth - 1⟩)[k]?=some ⟨hd.owner,hd.depth - 1⟩:=by rw[List.getElem?_set_self ad]
   obtain⟨ag,i,_,_,_,_,_,am,_⟩:=jL D.o bH a1;injection i with i;injection i with i;subst i;have:=am 0;rw[List.set_set] at this;exact this
  .exact(O.setCell (by simpa using a9) _).setCell (by simpa using a9) _
 .have E:(hd.depth - 1 == 0)=false:=by simpa using cI
  have z:=ae cI;clear cI;go_wp2
  go_ret2
  refine gJ.mk' (A:=some ⟨g,0,none⟩) (c:=c1) (n:=n2) I.o ?_ ?_ bX.o
  .rw[b8.o,down,if_neg z.o];exact D.o
  .exact O.setCell (by simpa using a9) _
 ):p:=h
theorem GR{p:Prop}(h:p:=by
 have bX:=ae (S.o cd);have a3:=ag (ah.2.2.2.1.aj bu.2.2) (ah.1.trans bu.2.2);have dl:=bu.2.2.size;obtain⟨bl,aA,aO⟩:=a3.1.two;obtain⟨e0,a6,aP⟩:=bu.2.1.two;go_wp2_with(fail);generalize hX:World.setCell _ _ _=Z;obtain⟨bk,bd,bg⟩:=bw (w:=w) [.slice bF cp a5,.slice I tn aK,.slice (some ⟨O,0,none⟩) ct aZ,.int .i64 s.fault] (by rfl) a3.1 a3.2 ad hX;have bh:=ag bd bg;clear hX bd bg bl aA aO e0 a6 aP;obtain⟨bl,aA,aO⟩:=bk.two;refine LU (v:=.tuple #[.agg #[.slice bF cp a5,.slice I tn aK,.slice (some ⟨O,0,none⟩) ct aZ,.int .i64 s.fault],.bool true]) (by simp[results,Tryz.results19,go_sem,bl]) rfl ?_;exact BJ
 ):p:=h
theorem GS{p:Prop}(h:p:=by
 have a3:=ag (ah.2.2.2.1.aj bu.2.2) (ah.1.trans bu.2.2);have dl:=bu.2.2.size;obtain⟨bl,aA,aO⟩:=a3.1.two;obtain⟨e0,a6,aP⟩:=bu.2.1.two;go_wp2_with(fail);generalize hX:World.setCell _ _ _=Z;obtain⟨bk,bd,bg⟩:=bw (w:=w) [.slice bF cp a5,.slice ab m L,.slice (some ⟨O,0,none⟩) ct aZ,.int .i64 s.fault] (by rfl) a3.1 a3.2 ad hX;have bh:=ag bd bg;clear hX bd bg bl aA aO e0 a6 aP;obtain⟨bl,aA,aO⟩:=bk.two;refine LU (v:=.tuple #[.agg #[.slice bF cp a5,.slice ab m L,.slice (some ⟨O,0,none⟩) ct aZ,.int .i64 s.fault],.bool true]) (by simp[results,Tryz.results19,go_sem,bl]) rfl ?_;rw[bX.o];exact fi (B:=V.heap.size) bu.1 bh.2 (λb O=>⟨λhl=>by have:=G.o b hl;omega,ad⟩) (λb O=>by have:=G.o b O;omega) ad bh.1 (by rw[eh bZ.2.1,List.set_set];rfl)
 ):p:=h
theorem xM{p:Prop}(h:p:=by
 have a3:=ae (show decide (S=T)=true from decide_eq_true (by
  apply List.ext_getElem?
  intro j;by_cases bi:j<k
  .exact aA.o j bi
  .rw[List.getElem?_eq_none (aD b8.o),List.getElem?_eq_none (aD J.o)]))
 go_wp2;go_ret;exact⟨ret_bool (by rw[a3.o]),O⟩
 ):p:=h
theorem GU{p:Prop}(h:p:=by
 have br:(0:Int)<=(k:Int):=ad;have cd:(k:Int)<(n:Int):=ad;by_cases hd:x=d
 .have aQ:=ae (show S[k]?=T[k]? by rw[hx,g,hd]);have u:(x != d)=false:=by simp[hd]
  exact BH
 .have a3:=ae (show decide (S=T)=false from decide_eq_false (λh=>by
   subst h;rw[hx] at g;injection g with g;exact hd g))
  have u:(x != d)=true:=by simp[hd]
  exact BQ
 ):p:=h
theorem DH{p:Prop}(h:p:=by
 exact BJ
 ):p:=h
theorem GV{p:Prop}(h:p:=by
 exact BH
 ):p:=h
theorem GW{p:Prop}(h:p:=by
 have aI:=ag R aV;have b7:=ah.2.2.2.1.on bP.2 (λh=>by have:=ah.2.2.2.2;omega);have aG:=ae b7;obtain⟨e0,a6,aP⟩:=b7.two;clear h he R aV b7;go_wp2_with(fail);generalize cu:World.setCell _ _ _=Y;obtain⟨bK,bt,bR⟩:=dY (M:=λb=>b=s) [.int .i64 1,.int .i64 cW,.string ⟨#[]⟩,.slice none 0 0] (by rfl) aG.o (ah.2.2.1.trans bP.2) (Lk _) cu;obtain⟨bl,aA,aO⟩:=bK.two;refine LU (v:=.agg #[.int .i64 1,.int .i64 cW,.string ⟨#[]⟩,.slice none 0 0]) (by simp[results,Tryz.results149,go_sem,bl]) rfl ?_;exact⟨.num cW,none,0,0,rfl,(by cases d<;>exact aI.o),Lk _,Sl.bR _,bP.1.cS bR (λb O h=>by have:=ah.2.2.2.2;omega),bt⟩
 ):p:=h
theorem GX{p:Prop}(h:p:=by
 clear h;go_enter func75,ntmps75;go_upto_region 1 with(fail);generalize be:World.alloc _ _=W;have aw:=iS be;have aR:=gG be;have cB:=gf be;obtain⟨a0,aj,af⟩:=aR.two;obtain⟨bl,aA,aO⟩:=cB.two;have bo:=ag aw cB;clear be aw aR cB;go_wp2_with(fail);generalize hX:World.setCell _ _ _=X;obtain⟨br,bs,cz⟩:=bw (w:=w) [.int .i64 0,.int .i64 0,.slice none 0 0,.slice none 0 0] (by rfl) bo.2 bo.1 ad hX;have aQ:=ae bs;clear hX bs cz a0 aj af bl aA aO;exact BI
 ):p:=h
theorem GY{p:Prop}(h:p:=by
 obtain⟨bl,aA,aO⟩:=a3.1.two;go_wp2_with(fail);generalize hX:World.setCell _ _ _=Z;obtain⟨bk,bd,bg⟩:=bw (w:=w) [.slice cE bT bY,.slice bf b2 bn,.slice bV cP ca,.int .i64 z] (by rfl) a3.1 a3.2 ad hX;have bh:=ag bd bg;clear hX bd bg bl aA aO;obtain⟨bl,aA,aO⟩:=bk.two;refine LU (v:=.tuple #[.agg #[.slice cE bT bY,.slice bf b2 bn,.slice bV cP ca,.int .i64 z],.bool true]) (by simp[results,Tryz.results19,go_sem,bl]) rfl ?_;rw[bX.o];exact fi (B:=cK.heap.size) (Q:={s with fault:=z}) c8.o bh.2 (λb O=>⟨λhl=>by have:=G.o b hl;omega,ad⟩) (λb O=>by have:=G.o b O;omega) ad bh.1 rfl
 ):p:=h
theorem I0{p:Prop}(h:p:=by
 exact BI
 ):p:=h
theorem GZ{p:Prop}(h:p:=by
 have c0:=Z 0 b2 rfl;have c1:=Z 1 cG rfl;have c2:=Z 2 ch rfl;have c3:=Z 3 bA rfl;simp only[Lu] at c0;have aT:b<wr.heap.size:=O;clear Z O;obtain⟨B,bF,bc,e,cv,ak⟩:=a5.1 Q;simp only[List.cons.injEq,and_true] at e;obtain⟨rfl,rfl,rfl,rfl⟩:=e;obtain⟨bu,H⟩:=aJ bb Q;clear bb Q ak;go_wp2_with(fail);refine(ck.o k z bu.o _ _ _ _ _ _ wr H.o).mono ?_;rintro e aU ⟨rfl,bL⟩;have aX:=ae (bo.trans bL);have bB:=ae (bO.aj bL);clear bL;exact BR
 ):p:=h
theorem G0{p:Prop}(h:p:=by
 rintro e aU ⟨bb,rfl,U,aZ⟩;have bc:=ag U ((bo.1.trans bu.o).trans aZ);clear U aZ bx a5 aT b2 ai N
 cases bb with
 | false=>
  go_wp2_with(fail);go_ret;refine⟨false,rfl,⟨λh=>(by cases h),λh=>?_⟩,bc.2⟩;have ac:=bZ.1;rw[h,bZ.2] at ac;injection ac with ac
  exact bc.1.2 ac.symm
 | true=>
  go_wp2_with(fail);go_roundw
  case rel=>
   refine⟨i+1,by go_num,ad,bc.2,λj bi=>?_⟩;by_cases az:j<i
   .exact bo.2 j az
   .obtain rfl:j=i:=ad;rw[bZ.1,bZ.2,bc.1.1 (by first|rfl|trivial)]
  case measure=>exact aH
 ):p:=h
theorem G1{p:Prop}(h:p:=by
 go_wp2_with(fail);refine(show Calls prog 146 #[.pointer (some ⟨g,0,none⟩),.string ⟨#[40]⟩] w _ from m2 [40] g A n c T k deep w H.o bZ.1 ad).mono ?_;rintro e aS ⟨rfl,a1,hF⟩;have H1:=ag a1 hF;clear a1 hF;go_wp2_with(fail);refine(show Calls prog 121 #[.pointer (some ⟨g,0,none⟩),.string ⟨#[41]⟩] aS _ from dB [41] g A n c T (k+1) deep aS H1.1 true bZ.2 (λ_=>ad)).mono ?_;rintro e aU ⟨rfl,a1,hF⟩;have bc:=ag (show ck aU g A n c T (k+2) deep from by simpa using a1) (H1.2.trans hF);clear a1 hF H1;go_wp2_with(fail);go_ret;exact⟨rfl,bc.o⟩
 ):p:=h
theorem DI{p:Prop}(h:p:=by
 clear aw T;go_wp2_with(fail);go_ret;refine⟨-1,rfl,⟨λh=>ad,λ⟨x,hx,hp⟩=>?_⟩,bo.1⟩;obtain⟨j,bi⟩:=List.getElem?_of_mem hx;exact absurd hp (bo.2 j x (by have:=(List.getElem?_eq_some_iff.1 bi).1;have:=bY.1;omega) bi)
 ):p:=h
theorem G2{p:Prop}(h:p:=by
 refine gJ.mk' (A:=some ⟨g,0,none⟩) (c:=c1) (n:=n2) I.o ?_ ?_ bX.o
 .rw[b8.o];have a1:(T.set k ⟨th+1,hd.depth⟩)[k]?=some ⟨th+1,hd.depth⟩:=by rw[List.getElem?_set_self ad]
  obtain⟨ag,i,_,_,_,_,_,_,s1⟩:=jL l.o bH a1;injection i with i;injection i with i;subst i;have:=s1 (hd.depth+1);rw[List.set_set] at this;exact this
 .exact(dl.setCell (by simpa using a9) _).setCell (by simpa using a9) _
 ):p:=h
theorem DJ{p:Prop}(h:p:=by
 go_wp2_with(fail);refine ck.mono ?_;rintro e aU ⟨r,rfl,ba,aZ⟩;have bc:=ag ba aZ;clear ba aZ;go_wp2_with(fail);go_ret;exact⟨decide (r>=0),rfl,⟨λh=>bc.1.1 (of_decide_eq_true h),λh=>decide_eq_true (bc.1.2 h)⟩,bc.2⟩
 ):p:=h
theorem G3{p:Prop}(h:p:=by
 rw[a1 bZ.o,qG,<-List.append_assoc,Lr,b0];have ac:=(bH.dm (ab:=X) b5.size λb al hp=>b5.block b al λhe=>by
  subst he;rcases hp with hp|hp
  .exact hp.elim
  .exact cP.1 hp).dm (ab:=bT) ay.size λb al hp=>ay.block b al λhe=>by
  subst he;rcases hp with hp|hp
  .exact hp.elim
  .exact cP.2 hp
 show Gr (λ_=>False) W.heap.size 166 3 bT A2 (ln+k+1) c2 _
 simpa using ac
 ):p:=h
theorem ub{p:Prop}(h:p:=by
 go_wp2;go_ret;exact⟨ret_bool (by rw[a3.o]),O⟩
 ):p:=h
theorem G4{p:Prop}(h:p:=by
 go_wp2_with(fail);generalize cu:World.setCell _ _ _=Y;obtain⟨bK,bt,bR⟩:=dY (M:=λ_=>False) [.slice none 0 0,.slice none 0 0,.slice none 0 0] (by rfl) bq.2.2.1 (w:=w) bq.1 ad cu;obtain⟨bl,aA,aO⟩:=bK.two;refine LU (v:=.tuple #[.agg #[.slice none 0 0,.slice none 0 0,.slice none 0 0],.int .i64 11]) (by simp[results,Tryz.results46,go_sem,bl]) rfl ?_;exact⟨_,_,_,_,_,_,_,_,_,_,rfl,bt⟩
 ):p:=h
theorem G5{p:Prop}(h:p:=by
 go_wp2_with(at_builtin;refine dn aU ky rfl (.tmp 28) (.tmp 30) rfl (w.heap.size+1) _ k _ #[_] rfl aN.o rfl rfl (by simp[Value.oneCell']) ad ad ak ?_;intro bt b6 f dv az;obtain⟨cE,c3,rfl,bh,_⟩:=b5 f);go_roundw
 case rel=>
  refine⟨k+1,ad,by go_num,l.on (H3 aN.o dv λg a9=>a9),?_⟩;rw[xi R.o,<-aL.o];exact f
 case measure=>exact aH
 ):p:=h
theorem I1{p:Prop}(h:p:=by
 obtain⟨dn,cL,_,aB,_⟩:=h.hF.ex;rw[h.hp] at cL;injection cL with cL;subst cL;rcases an with⟨ac,au,aY,bR,cI⟩|⟨ac,_⟩|⟨ac,_⟩|⟨ac,_,au,aY,bR⟩|⟨ac,_⟩|⟨ac,_⟩
 .exact⟨au,aY,λ_ a9=>by have:=bR a9;simpa[bC] using this,λ_ a9=>by have:=cI a9;omega⟩
 .omega
 .omega
 .exact⟨au,aY,λh=>ad,λh=>ad⟩
 .omega
 .omega
 ):p:=h
theorem G6{p:Prop}(h:p:=by
 by_cases ac:op=16
 .refine .inl ⟨by simpa using ac,?_,by simp;omega⟩;have:v1≠0:=λah=>bz ⟨ac,ah⟩;simpa using this
 .by_cases au:op=17
  .refine .inr (.inl ⟨by simpa using ac,by simpa using au,?_⟩);by_cases bG:v1=0
   .simpa using bG
   .exact absurd ⟨au,bG⟩ bn
  .exact .inr (.inr ⟨by simpa using ac,by simpa using au⟩)
 ):p:=h
theorem G7{p:Prop}(h:p:=by
 rintro a6 bj ⟨rfl,ar⟩;have aM:=ae (F.trans ar);have aZ:=ae (aO.trans ar);have cp:=ae (N.aj ar);have bV:=ae (bV.aj ar);clear a0 aj af F aO N;obtain⟨a0,aj,af⟩:=bV.two;clear a0 aj af;obtain⟨a0,aj,af⟩:=bV.two;go_wp2;go_roundw
 case rel=>exact⟨j+1,ad,by go_num,aM.o,aZ.o,cp.o⟩
 case measure=>exact aH
 ):p:=h
theorem DK{p:Prop}(h:p:=by
 constructor
 .rintro⟨y,rfl,h⟩;rw[bq] at h;obtain⟨ch,rfl,h⟩:=h;rw[aP] at h;subst h;rfl
 .rintro rfl;exact⟨_,rfl,bq.2 ⟨_,rfl,aP.2 rfl⟩⟩
 ):p:=h
theorem uc{p:Prop}(h:p:=by
 go_enter func55,ntmps55;go_wp2_with(fail);go_ret;exact⟨rfl,LW.alloc _⟩
 ):p:=h
theorem xN{p:Prop}(h:p:=by
 generalize (Value.agg #[.int .i64 x.bg,.int .i64 x.numOf,.string x.bA,.slice cw cc cC])=Y;intro aI;exact key a3 Y _ aI
 ):p:=h
theorem xO{p:Prop}(h:p:=by
 go_wp2;go_roundw
 case rel=>exact⟨k+1,ad,by go_num,by rw[<-aL.o],bx.o⟩
 case measure=>exact aH
 ):p:=h
theorem G8{p:Prop}(h:p:=by
 rintro e aF ⟨rfl,he⟩;have aX:=ae (bx.trans he);have y:=ae (m.trans he);have bB:=ae (G.aj he);clear he a0 aj af bx m G;obtain⟨a0,aj,af⟩:=bB.two;go_wp2;refine wp_loop_rounds 1 ?_;rw[rounds_succ];go_wp2;go_roundw
 case rel=>exact⟨k+1,ad,by go_num,aX.o⟩
 case measure=>exact aH
 ):p:=h
theorem xP{p:Prop}(h:p:=by
 rcases O with O|O
 .rw[O] at hc;exact aT.2.2 hc
 .rw[O] at hc;injection hc with hc;have:=aT.2.1;omega
 ):p:=h
theorem rG{p:Prop}(h:p:=by
 exact gJ.mk' I.o (by rw[b8.o];exact aB) O bX.o
 ):p:=h
theorem xQ{p:Prop}(h:p:=by
 refine fin _ λs hs=>?_;rcases LC.1 hs with rfl|hs
 .exact⟨c,c⟩
 .exact ao.2 s hs
 ):p:=h
theorem G9{p:Prop}(h:p:=by
 exact BR
 ):p:=h
theorem Ha{p:Prop}(h:p:=by
 exact BQ
 ):p:=h
theorem Hb{p:Prop}(h:p:=by
 go_wp2;go_roundw
 case rel=>
  refine⟨k+1,ad,by go_num,λj u bi g=>?_,aT.alloc ak _⟩;by_cases z:j<k
  .exact aA.o j u z g
  .obtain rfl:j=k:=ad;rw[aQ.o] at g;injection g with g;rw[<-g];exact aP.o
 case measure=>exact aH
 ):p:=h
theorem DL{p:Prop}(h:p:=by
 obtain⟨A,n,c,ac,au,aY⟩:=h.ex;exact⟨Ll h.lt O.size,A,n,c,ac,(O.cell h.lt (λh=>h)).trans au,aY.on (Fr.ext O)⟩
 ):p:=h
theorem DM{p:Prop}(h:p:=by
 simp only[D.aQ,D.rep];constructor
 .rintro⟨x,y,rfl,rfl,h⟩;exact⟨y,rfl,h⟩
 .rintro⟨y,rfl,h⟩;exact⟨_,y,rfl,rfl,h⟩
 ):p:=h
theorem xR{p:Prop}(h:p:=by
 go_wp2;go_roundw
 case rel=>exact⟨k+1,ad,by go_num,bd.o⟩
 case measure=>exact aH
 ):p:=h
theorem Hc{p:Prop}(h:p:=by
 unfold gN at h;rw[bM,fv] at h;obtain⟨y,rfl,h⟩:=h;obtain⟨x,ch,rfl,hx,bb⟩:=dH.1 h;obtain⟨A,n,c,rfl,hc,hs⟩:=jC.1 hx;rw[D.bm] at bb;obtain⟨A2,c2,rfl⟩:=fj.1 bb;exact⟨_,A,n,c,_,_,rfl,hx⟩
 ):p:=h
theorem xS{p:Prop}(h:p:=by
 clear bn cl;go_wp2;go_ret;refine⟨ret_bool ?_,O⟩;rw[a3.o,i.o,bQ.o];simp
 ):p:=h
theorem Hd{p:Prop}(h:p:=by
 rcases h with⟨m,hm,_,ac,au⟩|⟨_,hp⟩
 .by_cases bv:0<m.size
  .obtain⟨F,a,hs⟩:=ac bv;rw[an] at a;injection a with a;subst a;exact hs
  .rw[au bv] at an;cases an
 .rw[hp] at an;cases an
 ):p:=h
theorem He{p:Prop}(h:p:=by
 clear aw T;go_wp2_with(fail);go_ret;refine⟨true,rfl,⟨λ_=>List.ext_getElem? λj=>?_,λ_=>rfl⟩,bo.1⟩;exact BP
 ):p:=h
theorem ud{p:Prop}(h:p:=by
 go_wp2;go_ret;exact⟨ret_bool (by rw[a3.o]),aT.alloc ak _⟩
 ):p:=h
theorem Hf{p:Prop}(h:p:=by
 have q1:((n:Int) != (m:Int))=true:=by simp;omega
 have ax:=ae I;clear I;go_wp2_with(fail);go_ret;exact⟨false,rfl,⟨λh=>(by cases h),λh=>absurd (by rw[<-bY.1,<-bY.2.1,h]) ax.o⟩,LW⟩
 ):p:=h
theorem DN{p:Prop}(h:p:=by
 go_wp2_with(fail);refine(bY.o dx i.1).mono ?_;rintro e fn ⟨rfl,aP⟩;go_wp2_with(fail);go_ret;exact⟨rfl,aP⟩
 ):p:=h
theorem Hg{p:Prop}(h:p:=by
 obtain⟨cG,rfl,ac⟩:=bq.1 h;obtain⟨ch,rfl,au⟩:=bq.1 ac;obtain⟨bA,rfl,aY⟩:=bq.1 au;obtain⟨A,n,c,b7,rfl,hc,hs,bR⟩:=aN.1 aY;rw[aP] at bR;subst bR;exact⟨A,n,c,rfl,hc,hs⟩
 ):p:=h
theorem Hh{p:Prop}(h:p:=by
 unfold dv;rw[bM,ct];constructor
 .rintro⟨y,rfl,h⟩;rw[fv] at h;obtain⟨ch,rfl,h⟩:=h;rw[aP] at h;subst h;rfl
 .rintro rfl;exact⟨_,rfl,fv.2 ⟨_,rfl,aP.2 rfl⟩⟩
 ):p:=h
theorem rH{p:Prop}(h:p:=by
 go_wp2;go_ret;exact⟨ret_int (by rw[a3.o]),O⟩
 ):p:=h
theorem Hi{p:Prop}(h:p:=by
 have a3:=pH r1 cP.1 cP.2 f0 gT co rg ro;clear r1 f0 gT co rg ro bH a6 cm cc cP b5 z ay b6 c0 bR bu;go_wp2;go_roundw
 case rel=>exact⟨k+1,A2,c2,ad,by go_num,a3.o⟩
 case measure=>exact aH
 ):p:=h
theorem DO{p:Prop}(h:p:=by
 have hle:=(Fr.aF ar).size;clear hV ar;generalize aS.heap.size=c9 at *;exact key c9 V ⟨bm,aR,hle⟩
 ):p:=h
theorem zH{p:Prop}(h:p:=by
 have:b=.sg [41]:=by
  simp[ef] at O;exact O.symm
 subst this;refine⟨λh=>by simp[Atom.kt] at h,λs hs _ c hc=>?_⟩;injection hs with hs;subst hs;simp[Atom.head] at hc;subst hc;decide
 ):p:=h
theorem zI{p:Prop}(h:p:=by
 apply List.ext_getElem?
 intro j;rw[List.getElem?_map,List.getElem?_map];by_cases bi:i=j
 .subst bi;rw[List.getElem?_set_self (List.getElem?_eq_some_iff.1 J).1,J];rfl
 .rw[List.getElem?_set_ne bi]
 ):p:=h
theorem zJ{p:Prop}(h:p:=by
 have ac:=e1.size;exact⟨λO=>by
  rcases cl _ O with h|h
  .exact(aB _ h).2.1 rfl
  .omega,λO=>by
  rcases cl _ O with h|h
  .exact(aB _ h).2.2 rfl
  .omega⟩
 ):p:=h
theorem zK{p:Prop}(h:p:=by
 have q1:(bf == dS)=false:=by simpa using e1
 have bY:=ae e1;clear e1;go_wp2_with(fail);go_ret;exact⟨false,rfl,⟨λh=>(by cases h),λh=>absurd (cb.1 h).1 bY.o⟩,ah.1⟩
 ):p:=h
theorem HJ{p:Prop}(h:p:=by
 rw[mH];exact(bq.2.2.2.2.1.al λb O=>J.block b O.2 (lY O.1 a3.2.1.lt)).mono λb O=>⟨by have:=O.1;have:=a3.2.1.lt;omega,by have:=O.2;have:=J.size;omega⟩
 ):p:=h
theorem sF{p:Prop}(h:p:=by
 exact kv.bad a3.o (b8.below.trans (aa.below.mono b8.below.size))
 ):p:=h
theorem zL{p:Prop}(h:p:=by
 simp only[LH,Atom.bytes,Lz,LN];unfold fN;simp only[g,cW,H,LS,if_false,k];rw[if_neg ad,if_neg ad];exact ao _
 ):p:=h
theorem sG{p:Prop}(h:p:=by
 have au:=bO.2;simp only[Lq,LK,au];exact ac
 ):p:=h
theorem sH{p:Prop}(h:p:=by
 go_wp2;go_ret;exact⟨ret_bool (by rw[a3.o]),Below.refl _ _⟩
 ):p:=h
theorem HK{p:Prop}(h:p:=by
 rw[mH];exact(bq.2.2.2.2.1.al λb O=>J.block b O.2 (lY O.1 a3.2.1.lt)).mono λb O=>⟨by have:=O.1;omega,by have:=O.2;have:=J.size;omega⟩
 ):p:=h
theorem sI{p:Prop}(h:p:=by
 rw[aP] at aY;subst aY;exact⟨A,n,c,rfl,hc,hs⟩
 ):p:=h
theorem zM{p:Prop}(h:p:=by
 obtain⟨len,_,an⟩:=h.ok;rcases an with⟨ac,_⟩|⟨ac,_⟩|⟨_,_,ac⟩|⟨ac,_⟩|⟨ac,_⟩|⟨ac,_⟩<;>first|exact ac|omega
 ):p:=h
theorem sJ{p:Prop}(h:p:=by
 generalize wr.heap.size=az;intro ah;exact key a3 az j _ ah
 ):p:=h
theorem zN{p:Prop}(h:p:=by
 have n:=ae e1;clear e1;go_wp2_with(fail);go_ret;exact⟨false,rfl,⟨λh=>(by cases h),λh=>absurd (cb.1 h).1 (aD n.o)⟩,ah.1⟩
 ):p:=h
theorem zO{p:Prop}(h:p:=by
 refine⟨_,_,_,_,_,rfl,?_,bt.drew⟩;rw[bA.o];refine dX.2 ⟨none,0,0,rfl,Lk _,?_⟩;simp only[an];exact Sl.bR _
 ):p:=h
theorem vH{p:Prop}(h:p:=by
 go_wp2;go_ret;exact⟨ret_int (by rw[a3.o];rfl),LW.alloc _⟩
 ):p:=h
theorem vI{p:Prop}(h:p:=by
 exact⟨_,rfl,aN.2 ⟨A,n,c,[],rfl,hc,hs,aP.2 rfl⟩⟩
 ):p:=h
theorem zP{p:Prop}(h:p:=by
 intro hm;rcases hm with hm|hm|hm
 .have:=HA.lt;omega
 .have:=(HA.rows.one.lt hm).2;omega
 .have:=(HA.rows.two.lt hm).2;omega
 ):p:=h
theorem zQ{p:Prop}(h:p:=by
 obtain⟨len,_,an⟩:=i.ok;rcases an with⟨ac,_⟩|⟨ac,_⟩|⟨ac,_⟩|⟨ac,_⟩|⟨ac,_⟩|⟨ac,_⟩<;>omega
 ):p:=h
theorem zR{p:Prop}(h:p:=by
 simp only[Lt] at O ⊢;rcases O with O|O|O
 .exact .inl O
 .exact .inr (.inl O)
 .exact .inr (.inr (.inr O))
 ):p:=h
theorem sK{p:Prop}(h:p:=by
 have:=N.2;simpa[rr,rE] using this
 ):p:=h
theorem zS{p:Prop}(h:p:=by
 rw[<-hX];exact⟨Q.below.setCell (p:=⟨wr.heap.size,0,none⟩) (Lk _) _,Q.blk.aM 0 _,by simpa using Q.lt⟩
 ):p:=h
theorem zT{p:Prop}(h:p:=by
 clear e3;go_wp2;go_roundw
 case rel=>exact⟨j+1,ad,by go_num,by rw[ah.o],aT.alloc l _⟩
 case measure=>exact aH
 ):p:=h
theorem sL{p:Prop}(h:p:=by
 go_wp2;go_ret;exact⟨ret_bool a3.symm,aX.o⟩
 ):p:=h
theorem HL{p:Prop}(h:p:=by
 have cK:(hd.owner == 0)=true:=by simpa using bn
 clear bn;go_wp2;go_ret;exact⟨ret_bool (by rw[a3.o,bQ.o];rfl),O⟩
 ):p:=h
theorem zU{p:Prop}(h:p:=by
 unfold fY;rw[bM];exact ct.2 ⟨_,rfl,aN.2 ⟨none,0,0,[],rfl,Lk _,Sl.bR _,aP.2 rfl⟩⟩
 ):p:=h
theorem zV{p:Prop}(h:p:=by
 rw[<-hV];exact⟨((LW.alloc _).alloc _).drew,(LX).alloc _,aq.gC _ _ _ (by simp),ad,ad,ad⟩
 ):p:=h
theorem zW{p:Prop}(h:p:=by
 go_wp2_with(fail);go_ret;exact⟨false,rfl,⟨λh=>(by cases h),λh=>absurd (by rw[aA.1 h]) cz.o⟩,L.o⟩
 ):p:=h
theorem zX{p:Prop}(h:p:=by
 clear ah;conv=>arg 2;whnf
 go_wp2
 try refine j _ _ ?_
 unfold rm
 iterate 248 apply Exists.intro
 exact⟨a4.o,rfl⟩
 ):p:=h
theorem zY{p:Prop}(h:p:=by
 have bU:L=T:=by rw[<-bO.o];unfold fm;rw[J];rfl
 exact gJ.mk' I.o (by rw[bU];exact az) dl J
 ):p:=h
theorem vJ{p:Prop}(h:p:=by
 go_wp2;go_ret;exact⟨ret_int (by rw[bO.o]),Below.refl _ _⟩
 ):p:=h
theorem zZ{p:Prop}(h:p:=by
 rw[D.bm] at bb;obtain⟨A2,cC,c2,rfl,_,_⟩:=a5.1 bb;exact⟨_,_,_,_,_,_,_,_,rfl,bb⟩
 ):p:=h
theorem z0{p:Prop}(h:p:=by
 rcases Nat.eq_zero_or_pos n2 with ac|ac
 .exact ac
 .obtain⟨b,o,au,_⟩:=ht.2 ac;rw[h0] at au;cases au
 ):p:=h
theorem z1{p:Prop}(h:p:=by
 generalize (Value.agg (ar.val nA))=Y;generalize (Value.agg (gM.val (dG rq)))=o;intro F;exact key az o Y _ F
 ):p:=h
theorem vK{p:Prop}(h:p:=by
 have:=(List.getElem?_eq_some_iff.1 hm).1;simp at this;omega
 ):p:=h
theorem vL{p:Prop}(h:p:=by
 exact gb.mk' rfl ((Below.refl _ _).alloc (Lk _) _)
 ):p:=h
theorem z2{p:Prop}(h:p:=by
 exact Fr.low (M:=λb=>b=S.heap.size+1+1) ((ac.mono λ_ h=>h.elim).trans az) λk ap=>ad
 ):p:=h
theorem z3{p:Prop}(h:p:=by
 unfold heldBy;rw[f,show (hd.owner == th+1)=true by simpa using bR,decide_eq_true ⟨hm,aY⟩];rfl
 ):p:=h
theorem z4{p:Prop}(h:p:=by
 rcases H with H|H
 .rw[H] at O;exact .inl O
 .rw[H] at O;injection O with O;right;omega
 ):p:=h
theorem z5{p:Prop}(h:p:=by
 generalize (Value.agg (ar.val S))=Y;generalize (Value.slice A2 ak c2)=o;intro F;exact key az o Y _ F
 ):p:=h
theorem z6{p:Prop}(h:p:=by
 obtain⟨ch,rfl,h⟩:=h;rw[bq] at h;obtain⟨bA,rfl,h⟩:=h;rw[aP] at h;subst h;rfl
 ):p:=h
theorem z7{p:Prop}(h:p:=by
 cases j with
 | zero=>simp[oL] at bi;exact⟨rfl,bi.symm⟩
 | succ j=>simp[oL] at bi
 ):p:=h
theorem z8{p:Prop}(h:p:=by
 exact(lB.cons (.cons (.cons (.app (.cons (.nl (l:=[]) λa h=>by simp at h)))))).2 a bz
 ):p:=h
theorem vM{p:Prop}(h:p:=by
 go_wp2;go_ret;exact⟨rfl,LW.alloc _⟩
 ):p:=h
theorem z9{p:Prop}(h:p:=by
 simp only[VE.bg,VE.numOf,VE.bA] at *;go_wp2;go_ret;exact⟨ret_str bY.o,bo.o⟩
 ):p:=h
theorem Aa{p:Prop}(h:p:=by
 by_cases ah:0<=bx X e/\0<=th
 .exact ah
 .rw[qh ah] at J;cases J
 ):p:=h
theorem Ab{p:Prop}(h:p:=by
 have:=bh.2.2.1
 cases d with
 | zero=>exact this.elim
 | succ c8=>exact⟨c8,rfl⟩
 ):p:=h
theorem Ac{p:Prop}(h:p:=by
 conv=>lhs;rw[<-dd co]
 simp only[ByteArray.append_assoc,ah];simp
 ):p:=h
theorem Ad{p:Prop}(h:p:=by
 exact xd (q:=⟨bU,bW,bE,TA,tn,tc,HA,hn,hc⟩) ce.2.2 G.o bh.o
 ):p:=h
theorem Ae{p:Prop}(h:p:=by
 unfold heldBy;rw[f,show (hd.owner == th+1)=false by simpa using bR];simp
 ):p:=h
theorem Ag{p:Prop}(h:p:=by
 go_wp2;go_ret;exact⟨none,0,rfl,World.ownsRow_nil _ _ _ _,Below.refl _ _⟩
 ):p:=h
theorem Ah{p:Prop}(h:p:=by
 simp only[an.eQ,aA.decl,Gz,LM];cases d<;>exact Iff.rfl
 ):p:=h
theorem Ai{p:Prop}(h:p:=by
 intro x hx;obtain⟨j,bi⟩:=List.getElem?_of_mem hx;simpa using h j x bi
 ):p:=h
theorem Aj{p:Prop}(h:p:=by
 exact ld _ _ _ _ _ (by rw[mG];omega) (by rw[mG];omega)
 ):p:=h
theorem Ak{p:Prop}(h:p:=by
 clear hm;go_wp2;go_ret;exact⟨ret_int (by rw[a3.o];rfl),aw.alloc _⟩
 ):p:=h
theorem HM{p:Prop}(h:p:=by
 unfold free;rw[decide_eq_true ⟨hm,h0⟩,f,P,L,Bool.true_and]
 ):p:=h
theorem Al{p:Prop}(h:p:=by
 rw[rP,<-List.append_assoc];exact Lt.2 (.inl this)
 ):p:=h
theorem Am{p:Prop}(h:p:=by
 simp[go_sem];by_cases h:a=c<;>by_cases au:b=d<;>simp[h,au]
 ):p:=h
theorem An{p:Prop}(h:p:=by
 simp only[dc,count_nil,bs,cD,eE];omega
 ):p:=h
theorem sM{p:Prop}(h:p:=by
 obtain⟨a7,am,aF⟩:=(ah.2.2.1.aj bm).two;clear hV bm b7 du bq;have dD:w.heap.size+2<V.heap.size:=ad;go_wp2_with(fail);refine(Gf P s t fs f ⟨bU,bW,bE,TA,tn,tc,HA,hn,hc⟩ V (ce.2.2.Ho G.o (ah.1.trans bN.o)) (λb O=>Ll (G.o b O) (ah.1.trans bN.o).size) l.sm di bZ.2.1).mono ?_;rintro e b6 ⟨⟨bF,cp,a5,ab,m,L,bO,ct,aZ⟩,O,lb,lc,hx,b3,cG,cr,dR,aH,F1,F2,bj,rfl,a4,dH⟩;have bP:=ag a4 dH;have cQ:=a4.size;clear a4 dH a7 am aF;dsimp only[SV.val];go_upto_region 5 with(fail);generalize hU:World.alloc _ _=U;have cw:=aW hU;have c4:=aI hU;have b8:=bP.2 U b6.heap.size cw c4 (Lk _);have dG:=b8.mO;have ci:=b8.gl;have cy:=b8.tl;have cl:=b8.hl;simp only at dG ci cy cl;subst dG;obtain⟨a8,k,flb,J,H,c0,c1,c2,c3,bH⟩:=b8.top;have aU:Ext V U:=bP.1.trans cw;have dQ:=(b8.lo lb (by simp)).1;have bQ:=cJ b8 aU ci cy cl;have cx:t<(ct:Int):=by have:=bZ.2.2.2.2;omega
 have dU:((fs.length:Nat):Int)<(lc:Int):=by have:=b8.l.cap;omega
 have dM:fs.length<=lc:=ad;obtain⟨e0,a6,aP⟩:=c4.two;clear hU cw c4 b8 aU ci cy cl bP;go_upto_region 8 with(fail);generalize hX:World.setCell _ _ _=X;have ck:RO P V.heap.size X {s with threads:=s.threads.set t.toNat (fs++[next f])} t.toNat fs (next f) b6.heap.size ⟨bF,cp,a5,ab,m,L,some ⟨O,0,none⟩,ct,aZ⟩ O lb lc hx b3 cG cr dR aH F1 F2 bj:=hX▸bQ.1.pc (f.pc+1);have b5:=cO hX;have ch:Ext V X:=Fr.low (M:=λb=>b=lb) (Fr.trans (Fr.mono bQ.2.1 λ_ h=>h.elim) b5) λb O=>ad;have a2:=bN.trans ch;have aQ:=aE ck ch a2;have dI:=ch.size;clear hX b5 e0 a6 aP c0 c1 c2 c3 H flb J a8 k bH;obtain⟨a8,k,flb,J,H,c0,c1,c2,c3,bH⟩:=ck.top;obtain⟨a0,aj,af⟩:=(ah.2.1.aj a2).two;obtain⟨a7,am,aF⟩:=(ah.2.2.1.aj a2).two;obtain⟨d0,aL,aM⟩:=(bJ.aj ch).two;obtain⟨e0,a6,aP⟩:=ck.o.two;have dN:=(ck.lo b6.heap.size (by simp))
 exact sN
 ):p:=h
theorem sO{p:Prop}(h:p:=by
 have l:=ae h;have bZ:=cJ ao bA c9 tW pd;have dy:t<(hn:Int):=ad;have ce:=aE hu hs aD;obtain⟨G,cD⟩:=aJ a1 cA;clear h ao cy bA c9 tW pd hu hs aD a1 cA;dsimp only[UV.val,SV.val];go_enter func19,ntmps19;go_upto_region 1 with(fail);generalize be:World.alloc _ _=W;have aw:=lC be;have bD:=jw be;have b4:=h1 be;have cB:=jx be;have ah:=cH aw bD b4 cB (ce.1.on aw) (ce.2.1.on aw);have c5:=aw.size;have dw:=cB.lt;obtain⟨a0,aj,af⟩:=bD.two;obtain⟨a7,am,aF⟩:=b4.two;clear be aw bD b4 cB;go_wp2_with(fail);refine(ox u s t f cn x W ⟨GA,gn,gc,MA,mn,mc,PA,pn,pc⟩ ⟨bU,bW,bE,TA,tn,tc,HA,hn,hc⟩ ⟨l.sm,l.ht,l.hp,l.hx,l.hF.proc,l.pc.1,l.il,l.kl,ah.2.2.2.2.1,ah.2.2.2.2.2⟩).mono ?_;rintro e aS ⟨⟨eo,en,es,EA,em,ec,QA,qm,qc,dg,j,dc,KA,dj,kc⟩,rfl,bG,aN⟩;have bq:=ag bG aN;clear a0 aj af a7 am aF bG aN;dsimp only[IV.val];go_upto_region 2 with(fail);generalize hV:World.alloc _ _=V;have b7:=aW hV;have du:=aI hV;have bm:Ext W V:=bq.2.trans b7;have dm:=bm.size;have cf:=du.lt;have dK:=bq.2.size;have bN:=ae bm;have dv:=ae (bq.1.on b7);have bJ:=ae du;exact sP
 ):p:=h
theorem lU{p:Prop}(h:p:=by
 intro p bL B eQ bX ps V T ls N S L aw bm QA co qc bS bl av aX bM on b4 cE dR dL aR bA wr bf cq eT cN nt a4 bV b3 c2 bn ce aJ bu cy Q hQ0 hN K hK;intros
 obtain⟨s,wb,sA,bW,bE,sl,GA,gn,gc,MA,mn,mc,FA,fn,fc,M,F,ar⟩:=p;simp only at dR bf cq eT;obtain⟨a0,aj,af⟩:=bV.1.blk.two;obtain⟨a7,am,aF⟩:=bV.2.1.two;obtain⟨d0,aL,aM⟩:=bV.2.2.two;conv=>arg 2;whnf
 conv at hK=>enter [a,w,1,2];whnf
 exact lV
 ):p:=h
theorem HN{p:Prop}(h:p:=by
 refine oQ ?_
 iterate 4 refine pf ?_
 refine aG rfl (λK hK=>?_);go_simp;refine(jQ ⟨s,wb,sA,bW,bE,sl,GA,gn,gc,MA,mn,mc,FA,fn,fc,M,F,ar⟩ L bl av bi aX wr.drew ((bV.1.aj bf LW.drew).wr a4.1) ((Sl.c8 a4.2.2.2.2.1 (bV.1.aj bf LW.drew).fr).mono λb O=>⟨O.1,λh=>O.2 (.inl h)⟩) ad).mono ?_;rintro e aS ⟨x,cw,cc,cC,rfl,hx,aN,bo,h,he⟩;simp only at h he;have ai:Fr (λb=>b=s) wr aS:=Fr.aF he;have Z:=bV.2.2.on ai ad;have a3:=h2 (bV.1.next bf h ai) Z hx aN bo ai.size (bV.2.1.on ai W);refine dq hK (he) ?_;clear hK K;clear Z hx aN bo h he ai a0 aj af a7 am aF d0 aL aM;refine ax rfl (λK hK=>?_);go_simp
 first
  | rw[j.2,show IntKind.i64.wrap ((i:Nat):Int)=((i:Nat):Int) from IntWalk.i64_in _ ad]
  | rw[j.2]
 refine(ce.2.2 L ad i 3 bl (T++decls ls) av bi aX bm ps QA co qc bS aS ad ad (a3.1.wr a4.1) (Sl.c8 a4.2.2.2.2.1 a3.1.fr) ad (λk ap=>ce.2.1 k ad) (Sl.c8 a4.2.2.1 a3.1.fr) bA).mono ?_;rintro e aU ⟨R,ba,m,aB,bG,rfl,ah,dE,cr,al,U⟩;have u:¬(S.heap.size=s\/S.heap.size=wb):=ad;have l:=a3.2.1.on U u;have aP:=a3.2.2.2.2.2.2.on U (λh=>by rcases h with h|h<;>(simp only at h;omega));have dF:ba<=L:=ah.le;have bq:=h2 (a3.1.Ic al U) l ah dE cr U aP;clear ah dE cr al U aP;obtain⟨d0,aL,aM⟩:=l.two;clear l;refine dP hK ?_;clear hK K;refine ax rfl (λK hK=>?_);go_simp;refine dP hK ?_;clear hK K;refine pf ?_;refine ax rfl (λK hK=>?_);go_simp;refine dP hK ?_;clear hK K;refine pf ?_;refine ax rfl (λK hK=>?_);go_simp;refine dP hK ?_;clear hK K;refine aC ?_;generalize hX:World.setCell _ _ _=X;have J:Fr (λb=>b=S.heap.size) aU X:=hX▸((((((Fr.refl (λb=>b=S.heap.size) aU).setCell (.inl rfl) _).setCell (.inl rfl) _).setCell (.inl rfl) _).setCell (.inl rfl) _).setCell (.inl rfl) _).setCell (.inl rfl) _;exact Ao
 ):p:=h
theorem vN{p:Prop}(h:p:=by
 have a3:=ag (ah.2.2.2.1.aj bu.2.2) (ah.1.trans bu.2.2);have dl:=bu.2.2.size;obtain⟨bl,aA,aO⟩:=a3.1.two;obtain⟨e0,a6,aP⟩:=bu.2.1.two;go_wp2_with(fail);generalize hX:World.setCell _ _ _=Z;obtain⟨bk,bd,bg⟩:=bw (w:=w) [.slice bF cp a5,.slice ab m L,.slice (some ⟨O,0,none⟩) ct aZ,.int .i64 s.fault] (by rfl) a3.1 a3.2 ad hX;have bh:=ag bd bg;clear hX bd bg bl aA aO e0 a6 aP;obtain⟨bl,aA,aO⟩:=bk.two;refine LU (v:=.tuple #[.agg #[.slice bF cp a5,.slice ab m L,.slice (some ⟨O,0,none⟩) ct aZ,.int .i64 s.fault],.bool true]) (by simp[results,Tryz.results19,go_sem,bl]) rfl ?_;exact vO
 ):p:=h
theorem Ap{p:Prop}(h:p:=by
 rintro e aS ⟨rfl,ar⟩;refine dq hK (ar) ?_;clear hK K;refine bu (v:=?_) rfl (by rfl) (λV=>?_) ?_;rotate_left
 .go_simp;exact ep
 try simp only[PU]
 refine bu (v:=?_) rfl (by rfl) (λV=>?_) ?_;rotate_left
 .go_simp;exact ep
 try simp only[PU]
 exact Aq
 ):p:=h
theorem Ar{p:Prop}(h:p:=by
 have a6:=bV.2.2.lt;have I:∀b,wr.heap.size<=b->¬(b=s\/b=wb):=λb O h=>ad;have dD:S.heap.size<=aS.heap.size:=by have:=a3.2.2.2.2.2.1;omega
 have a1:Sl X (fresh S X) cw cc (x.args.map bp):=(a3.2.2.2.2.1.al λb O=>(J.block b (lY O.2 bq.2.2.2.2.2.1.size) (by have:=O.1;have:wr.drew.heap.size=wr.heap.size:=rfl;omega)).trans (bq.2.2.2.2.2.1.block b O.2 (I b O.1))).mono λb O=>⟨by have:=O.1;have:wr.drew.heap.size=wr.heap.size:=rfl;omega,by have:=O.2;have:=bq.2.2.2.2.2.1.size;have:=J.size;omega⟩
 have bQ:Sl X (fresh S X) m aB (c6 (.eQ R)):=by
  exact HK
 have aW:Sl X (λb=>S.heap.size<b/\b<X.heap.size) cw cc (x.args.map bp):=(a3.2.2.2.2.1.al λb O=>(J.block b (lY O.2 bq.2.2.2.2.2.1.size) (by have:=O.1;have:wr.drew.heap.size=wr.heap.size:=rfl;omega)).trans (bq.2.2.2.2.2.1.block b O.2 (I b O.1))).mono λb O=>⟨by have:=O.1;have:wr.drew.heap.size=wr.heap.size:=rfl;omega,by have:=O.2;have:=bq.2.2.2.2.2.1.size;have:=J.size;omega⟩
 have aT:Sl X (λb=>S.heap.size<b/\b<X.heap.size) m aB (c6 (.eQ R)):=by
  exact HJ
 have ao:=ag aW aT;clear aW aT;have ab:=bq.1.fresh a4.1 J λb O=>ad;have bc:=bq.2.2.2.2.2.2.on J ad;have aQ:=cJ ab br bc a1 bQ;clear hX d0 aL aM J br ab bc a1 bQ;exact As
 ):p:=h
theorem At{p:Prop}(h:p:=by
 go_wp2_with(fail);refine(Fi A n c l w H.1 hc).mono ?_;rintro e aS ⟨u,a7,ar,cg,v,b4,cX,hr,de,cC,bz,cq,cZ,d0,d1,d2,d3,d4,d5,GA,gn,gc,MA,mn,mc,PA,pn,pc,rfl,hU,_,_,_,b1,aN⟩;have aR:(⟨GA,gn,gc,MA,mn,mc,PA,pn,pc⟩:UV).Ok aS u:=Jx b1 λb O=>O.2;have H1:=aE hU aR aN;clear hU aR aN b1;go_upto_region 2 with(fail);generalize hX:World.alloc _ _=X;have bs:=lC hX;have br:=h1 hX;have bv:=H1.2.2.trans bs;have aQ:=bJ (H1.2.1.on bs) bv br (H.2.c8 bv.ext bv.size);obtain⟨bx,a5,aT⟩:=br.two;clear hX bs br bv;go_wp2_with(fail);refine(uM u ⟨GA,gn,gc,MA,mn,mc,PA,pn,pc⟩ B m d ak X H1.1 aQ.1 aQ.2.2.2).mono ?_;rintro e aU ⟨⟨bU,bW,bE,TA,tn,tc,HA,hn,ca⟩,rfl,bA,aZ⟩;have bM:=Gu u H1.1 ak;generalize gE u (dG u) (cr ak 60)=S at *;have bI:=bM.small H1.1.ok ad;have pd:hn=S.threads.length:=by have:=bA.at_.h.1;simpa using this.symm
 have aA:1<=hn:=by have:=bM.xl;omega
 have aB:hn<=1000000:=by have:=bI.h;omega
 clear pd;have bc:=bJ bA aZ bM bI;clear bA aZ bx a5 aT bM bI;dsimp only[SV.val];go_upto_region 3 with(fail);generalize cu:World.alloc _ _=Y;have bt:=aW cu;have bK:=aI cu;have cd:=bc.2.1.trans bt;have bu:=aE (aQ.1.on cd) (bc.1.on bt) (aQ.2.1.trans cd);have bO:=ag (aQ.2.2.1.aj cd) bK;exact Au
 ):p:=h
theorem vP{p:Prop}(h:p:=by
 go_enter func147,ntmps147;go_upto_region 8 with(fail);generalize be:World.alloc _ _=W;have aw:=iS be;have aV:=gG be;have bG:=gf be;have a4:L5 (zF w W g A n c T k deep (m9 0 ⟨#[]⟩ ⟨#[]⟩)):=ae ⟨H.aj aw,aw.mono λ_ h=>h.elim,aV,bG⟩;clear be aw aV bG;go_wp2_with(fail);refine(show Calls prog 121 #[.pointer (some ⟨g,0,none⟩),.string ⟨#[118,97,114]⟩] W _ from dB [118,97,114] g A n c T k deep W a4.ps false (by first|exact bZ.1|exact gx bZ.1 (by decide)) (λh=>by first|omega|cases h)).mono ?_;rintro e aS ⟨rfl,a1,hF⟩;have H1:=ae (a4.on ci (show ck aS g A n c T (k) deep from by simpa using a1) hF);clear a1 hF;clear a4;go_wp2_with(fail);exact vQ
 ):p:=h
theorem sQ{p:Prop}(h:p:=by
 obtain⟨ao,di,cy,fs,bA,cg⟩:=h.th;have hs:=aD.ok a1;obtain⟨GA,gn,gc,MA,mn,mc,PA,pn,pc⟩:=p;obtain⟨bU,bW,bE,TA,tn,tc,HA,hn,hc⟩:=q;have pd:hn=s.threads.length:=by have:=hs.at_.h.1;simpa using this.symm
 have c9:bW=s.globals.length:=by have:=hs.at_.g.1;simpa using this.symm
 have tW:tn=s.table.length:=by have:=hs.at_.t.1;simpa using this.symm
 have dp:hn<=1000:=by have:=h.sm.h;omega
 have db:=h.pc;exact sR
 ):p:=h
theorem Av{p:Prop}(h:p:=by
 rintro r aS ⟨rfl,O⟩;by_cases hm:0<=bx X e
 case neg=>
  have a3:=ae (show free X T e th=false from qh ad);have aQ:bx X e<0:=ad;clear hm;exact ub
 obtain⟨k,m,hd,rfl,ap,d,f,P,bd⟩:=hT.at_ hm;rw[P];have bH:k<n2:=by have:=ht.1;omega
 have b3:m<n:=by have:=h.1;omega
 by_cases h0:0<=th
 case neg=>
  have a3:=ae (show free X T k th=false from qh ad);have t:th<0:=ad;clear h0 d f P;exact ub
 obtain⟨b,o,u,rfl,U,hx,c0,c1⟩:=(ht.dS O).hold bH;obtain rfl:hd=u:=by rw[d] at hx;injection hx
 obtain⟨K,M,mx,rfl,l,g,d0,d1,d2⟩:=(h.dS O).IF b3;have bl:=hT.bound hd (Ln d);have L:w5 X m=mx.re:=by unfold w5;rw[LI,g];rfl
 have cd:free X T k th=(hd.owner == 0 || (hd.owner == th+1 && mx.re)):=by
  exact HM
 have a3:=ae cd;clear cd hx g d f P hm L;by_cases bn:hd.owner=0
 .have bQ:=ae bn;exact HL
 have cK:(hd.owner == 0)=false:=by simpa using bn
 exact Aw
 ):p:=h
theorem Ax{p:Prop}(h:p:=by
 refine rC (λb=>b=S.heap.size+1) [14] (.free 0 (.free 1 (.free 2 (.free 6 (.free 7 (.free 8 (.held 9 (.pick [3,10,13] (λi=>bif i == 3 then .held 4 (.free 5 (.pick [10,13] (λi=>bif i == 10 then .free 11 (.free 12 (.pick [13] (λ_=>.pick [14] (λ_=>.stop)))) else .pick [10] (λ_=>.free 11 (.free 12 (.pick [14] (λ_=>.stop))))))) else bif i == 10 then .free 11 (.pick [3,13] (λi=>bif i == 3 then .held 4 (.free 5 (.free 12 (.pick [13] (λ_=>.pick [14] (λ_=>.stop))))) else .pick [3] (λ_=>.held 4 (.free 5 (.free 12 (.pick [14] (λ_=>.stop))))))) else .pick [3,10] (λi=>bif i == 3 then .held 4 (.free 5 (.pick [10] (λ_=>.free 11 (.free 12 (.pick [14] (λ_=>.stop)))))) else .free 11 (.pick [3] (λ_=>.held 4 (.free 5 (.free 12 (.pick [14] (λ_=>.stop)))))))))))))))) ?_
 iterate 6 refine tf ?_
 refine nh ?_;clear a0 aj af;exact Ay
 ):p:=h
theorem Az{p:Prop}(h:p:=by
 rintro e b6 ⟨⟨bF,cp,a5,a1,m,L,bf,ct,aZ⟩,rfl,bM,a4⟩;have c8:=ae bM;have cz:=(ah.2.2.2.2.1.aj bx.o).aj a4;have a3:=ag cz ((ah.1.trans bx.o).trans a4);clear bM a4 a7 am aF d0 aL aM;obtain⟨bl,aA,aO⟩:=cz.two;clear cz;go_wp2_with(fail);generalize hX:World.setCell _ _ _=Z;exact AA
 ):p:=h
theorem sS{p:Prop}(h:p:=by
 refine ax rfl (λK hK=>?_);go_simp;refine dP hK ?_;clear hK K;refine pf ?_;refine ax rfl (λK hK=>?_);go_simp;refine dP hK ?_;clear hK K;exact sT
 ):p:=h
theorem eT{p:Prop}(h:p:=by
 refine ax rfl (λK hK=>?_);go_simp;refine dP hK ?_;clear hK K;refine aC ?_;exact dE
 ):p:=h
theorem pI{p:Prop}(h:p:=by
 obtain⟨I,bP,aK,e,cb,hs⟩:=a5.1 ba;simp only[List.cons.injEq,Value.int.injEq,Value.string.injEq,Value.slice.injEq,and_true,true_and] at e;obtain⟨rfl,rfl,rfl,rfl,rfl,rfl⟩:=e;exact pJ
 ):p:=h
theorem sU{p:Prop}(h:p:=by
 have a3:=ae (show decide (S=T)=false from decide_eq_false (λh=>bf (by rw[<-hl,<-bc,h])));have v:(n != n2)=true:=by simpa using bf
 have m:((n:Int) != (n2:Int))=true:=by simp;omega
 clear hl bc bf;exact sV
 ):p:=h
theorem hB{p:Prop}(h:p:=by
 obtain⟨GA,gn,gc,MA,mn,mc,PA,pn,pc⟩:=p;obtain⟨bU,bW,bE,TA,tn,tc,HA,hn,hc⟩:=q;exact hE
 ):p:=h
theorem AB{p:Prop}(h:p:=by
 have aw:Ext w (w.alloc (.cells #[.bool false,.int .i64 i,.slice (some ⟨b,o,none⟩) 1 pc] 55)):=LW.alloc _;have c:aq (w.alloc (.cells #[.bool false,.int .i64 i,.slice (some ⟨b,o,none⟩) 1 pc] 55)) w.heap.size 55 #[.bool false,.int .i64 i,.slice (some ⟨b,o,none⟩) 1 pc]:=LX;obtain⟨ar,F,da,hm,T,e0,e1,e2,e3⟩:=h;obtain⟨ht,bE,bP,rfl,cc,aQ,f0,f1,f2⟩:=F.JT da;have P:bP=m:=by rw[hm] at aQ;injection aQ with h;exact h.symm
 subst P;exact AD
 ):p:=h
theorem fp{p:Prop}(h:p:=by
 refine ao ?_;refine bQ rfl (λK hK=>?_) rfl;go_simp;refine dP hK ?_;clear hK K;exact eU
 ):p:=h
theorem vR{p:Prop}(h:p:=by
 have d0:=Z 0 _ rfl;have d1:=Z 1 _ rfl;have d2:=Z 2 _ rfl;have d3:=Z 3 _ rfl;have d4:=Z 4 _ rfl;have d5:=Z 5 _ rfl;have d6:=Z 6 _ rfl;have d7:=Z 7 _ rfl;have d8:=Z 8 _ rfl;have d9:=Z 9 _ rfl;have d10:=Z 10 _ rfl;simp only[Lu] at d0;exact vS
 ):p:=h
theorem sW{p:Prop}(h:p:=by
 obtain⟨aY,c7,cZ,rfl,dd,cV⟩:=a5.1 Q;have c0:=Z 0 _ rfl;have c1:=Z 1 _ rfl;have c2:=Z 2 _ rfl;have c3:=Z 3 _ rfl;simp only[Lu] at c0;have aT:b<wr.heap.size:=O;exact sX
 ):p:=h
theorem AE{p:Prop}(h:p:=by
 go_upto_region 1 with(fail);generalize be:World.alloc _ _=W;have aw:=lC be;have b4:=jw be;have cf:=h1 be;have ba:=jx be;have ah:=h2 aw b4 cf ba (hu.on aw) (hs.on aw) (D.on bA (Fr.ext aw));have x:=hT.on aw;obtain⟨a0,aj,af⟩:=b4.two;obtain⟨a7,am,aF⟩:=cf.two;obtain⟨d0,aL,aM⟩:=ba.two;have aa:=ae x;clear be aw b4 cf ba x hT hu hs bA bI hS hU ht hp hx hF y r;go_wp2_with(fail);exact AF
 ):p:=h
theorem AG{p:Prop}(h:p:=by
 clear hX d0 aL aM HA;go_wp2_with(fail);refine(show Calls prog 146 #[.pointer (some ⟨g,0,none⟩),.string ⟨#[59]⟩] X _ from m2 [59] g A n c T (k+1+1) deep X aQ.ps bZ.2.2.2.2 ad).mono ?_;rintro e cc ⟨rfl,a1,hF⟩;have bh:=ae (aQ.on ci a1 hF);clear a1 hF aQ;obtain⟨d0,aL,aM⟩:=bh.s.two;obtain⟨bl,aA,aO⟩:=bh.r.two;simp only[m9] at d0;go_wp2_with(fail);generalize hX:World.setCell _ _ _=V;exact AH
 ):p:=h
theorem AI{p:Prop}(h:p:=by
 clear bv;have dh:=cc.size;go_wp2_with(fail);refine(pw P s ⟨bU,bW,bE,TA,tn,tc,HA,hn,hc⟩ z cK (ce.2.2.Ho G.o (ah.1.trans cc.o)) (λb O=>Ll (G.o b O) (ah.1.trans cc.o).size)).mono ?_;rintro e c7 ⟨⟨cE,bT,bY,bf,b2,bn,bV,cP,ca⟩,rfl,bM,b0⟩;have f2:=b0.size;have c8:=ae bM;have a3:=ag (ah.2.2.2.1.aj (cc.trans b0)) ((ah.1.trans cc.o).trans b0);exact AJ
 ):p:=h
theorem AK{p:Prop}(h:p:=by
 obtain⟨n,nm,b,o,c,bx,Z,a4,E,b2,cG,ch,bA,T,O,hx,bb,e0,e1,e2,e3,a6,cu,bB,e7⟩:=h.rep;injection T with h0 T;injection T with ac T;injection T with au T;injection T with aY T;subst h0 ac au aY;clear T;have cA:=h.ok.1;have aG:lR w G L ng nl g l x [bx,Z,a4,E]:=⟨h.gs,h.ls,h.ok.2.1,hx⟩
 have j:lR w G L ng nl g l y [b2,cG,ch,bA]:=⟨h.gs,h.ls,h.ok.2.2,bb⟩
 exact AL
 ):p:=h
theorem vT{p:Prop}(h:p:=by
 have a9:=h.g;have hm:=h.m;have J:=h.f;have ds:p.globals.length=gn:=by rw[<-a9.1,Lo]
 have lm:p.af.length=mn:=by rw[<-hm.1,Lo]
 have lf:p.funcs.length=fn:=by rw[<-J.1,Lo]
 exact vU
 ):p:=h
theorem HO{p:Prop}(h:p:=by
 generalize cu:World.setCell _ _ _=Y;obtain⟨bK,bt,bR⟩:=dY (M:=λb=>b=s) [.int .i64 x.bg,.int .i64 x.numOf,.string x.bA,.slice cw cc cC] (by rfl) bO.o bc.2 (Lk _) cu;obtain⟨bl,aA,aO⟩:=bK.two;exact AM
 ):p:=h
theorem AN{p:Prop}(h:p:=by
 refine(show Calls prog 121 #[.pointer (some ⟨g,0,none⟩),.string ⟨#[103,111]⟩] aS _ from dB [103,111] g A n c T k deep aS H1.ps false (by first|exact bZ.1|exact gx bZ.1 (by decide)) (λh=>by first|omega|cases h)).mono ?_;rintro e aU ⟨rfl,a1,hF⟩;have bc:=ae (H1.on ci (show ck aU g A n c T (k) deep from by simpa using a1) hF);clear a1 hF;clear H1;go_wp2_with(fail);exact AO
 ):p:=h
theorem AP{p:Prop}(h:p:=by
 rintro e aS ⟨rfl,a1,hF⟩;have H1:=aE a1 (Fr.trans (ah.2.1.mono λ_ h=>h.elim) hF) (ah.2.2.on hF ad);have ao:w.heap.size<aS.heap.size:=H1.2.2.lt;clear a1 hF;go_upto_region 2 with(fail);generalize hX:World.alloc _ _=X;have aw:=aW hX;have cB:=aI hX;have aQ:=bJ (H1.1.aj aw) (H1.2.1.trans (aw.mono λ_ h=>h.elim)) (H1.2.2.aj aw) cB;clear hX aw cB H1 ah;go_wp2_with(fail);exact AQ
 ):p:=h
theorem AR{p:Prop}(h:p:=by
 have bo:=ae (show ev g l (.bin op x y)=if (ev g l x).2≠0 then (0,(ev g l x).2) else if op=16/\(ev g l x).1=0 then (0,0) else if op=17/\(ev g l x).1≠0 then (1,0) else if (ev g l y).2≠0 then (0,(ev g l y).2) else if op=16\/op=17 then (fo ((ev g l y).1 != 0),0) else arith op (ev g l x).1 (ev g l y).1 from rfl);generalize ev g l x=r1 at *;obtain⟨v1,f1⟩:=r1;exact AS
 ):p:=h
theorem AT{p:Prop}(h:p:=by
 go_upto_region 1 with(fail);generalize be:World.alloc _ _=W;have aw:=IZ be;have b4:=GI be;have cf:=GJ be;have ba:=GK be;have cB:=GL be;have ah:=pH aw b4 cf ba cB (ce.1.on aw) (ce.2.1.on aw) (ce.2.2.on aw);obtain⟨a0,aj,af⟩:=b4.two;obtain⟨a7,am,aF⟩:=cf.two;obtain⟨d0,aL,aM⟩:=ba.two;clear be aw b4 cf ba cB ce;go_wp2_with(fail);exact AU
 ):p:=h
theorem AV{p:Prop}(h:p:=by
 refine rC (λ_=>False) [6,11] (.free 0 (.free 1 (.free 2 (.held 3 (.free 4 (.held 5 (.pick [6,10] (λi=>bif i == 6 then .free 7 (.free 8 (.free 9 (.pick [10] (λ_=>.pick [11] (λ_=>.free 12 (.stop)))))) else .pick [6] (λ_=>.free 7 (.free 8 (.free 9 (.pick [11] (λ_=>.free 12 (.stop)))))))))))))) ?_
 iterate 3 refine tf ?_
 refine th ?_;refine tf ?_;refine th ?_;exact AW
 ):p:=h
theorem lW{p:Prop}(h:p:=by
 go_upto_region 1 with(fail);generalize be:World.alloc _ _=W;have aw:=iS be;have aR:=gG be;have cB:=gf be;exact lX
 ):p:=h
theorem AX{p:Prop}(h:p:=by
 have k:=λbv=>D6 (s:=s) (nl:=cn.locals) (nk:=f.au.length) aQ.1 aQ.2.2.1 (Int.le_refl _) aQ.2.2.2.2.2 j bv;have an:=yO (u:=u) (s:=s) (f:=f) j;have o:=p1 (u:=u) (s:=s) (f:=f) j;generalize cK u s f pl=R at *;obtain⟨v,z⟩:=R;simp only at k an o;have bq:=aE k an o;exact AY
 ):p:=h
theorem AZ{p:Prop}(h:p:=by
 go_upto_region 1 with(fail);generalize be:World.alloc _ _=W;have aw:=aW be;have aR:aq W w.heap.size 53 #[.int .i64 0,.int .i64 0,.string ⟨#[]⟩,.slice none 0 0]:=be▸aq.gC _ _ _ rfl;have ah:=bJ (H.1.aj aw) (H.2.aj aw) (aw.mono (M':=λb=>b=s) λ_ h=>h.elim) aR;obtain⟨a0,aj,af⟩:=ah.1.blk.two;clear be aw aR H;exact A0
 ):p:=h
theorem A1{p:Prop}(h:p:=by
 have bc:=ht.1;have cP:n2<=5000:=by have:=ch hX;have:=hT.len;omega
 have aG:=ei X T e th;have hlen:(n2:Int)=elems X:=by rw[<-dz,<-hT.len,bc]
 generalize aR:cL X T e th=L at *;obtain⟨bO,bY⟩:=aJ aR hlen;clear aR hlen;rw[bc] at aG;have I:=ae aG;clear aG;exact A3
 ):p:=h
theorem A4{p:Prop}(h:p:=by
 have r:bL<X.heap.size:=Ll aO bs.size;clear hX bs br;go_upto_region 7 with(fail);generalize cu:World.alloc _ _=Y;have bt:=aW cu;have bK:=aI cu;have bu:=ae (aQ.1.trans bt);obtain⟨bx,a5,aT⟩:=(aQ.2.aj bt).two;obtain⟨b2,ai,N⟩:=bK.two;clear cu bt bK;go_wp2_with(fail);exact A5
 ):p:=h
theorem pK{p:Prop}(h:p:=by
 try refine hN _ _ ?_
 unfold lT;refine⟨av,bi,aX,bM,on,b4,?_⟩
 iterate 240 apply Exists.intro
 refine⟨?_,rfl⟩;exact pL
 ):p:=h
theorem A6{p:Prop}(h:p:=by
 try simp only[PU]
 refine dr rfl (by rfl) ?_
 try simp only[PU]
 refine dr rfl (by rfl) ?_
 try simp only[PU]
 refine dr rfl (by rfl) ?_
 try simp only[PU]
 refine iq rfl (by rfl) ?_
 try simp only[PU]
 refine dr rfl (by rfl) ?_
 try simp only[PU]
 refine iq rfl (by rfl) ?_
 try simp only[PU]
 exact A7
 ):p:=h
theorem A8{p:Prop}(h:p:=by
 generalize hV:World.alloc _ _=V;have L:=aW hV;have bx:=ae (bo.trans L);have G:=ae (bO.aj L);have hC:=aI hV;have bV:=ae hC;have gO:=ae (cg.on (Fr.ext L));have dx:=ae (bl.on (Fr.ext L));clear hV a0 aj af c0 c1 c2 aT bo bO L cg bl;obtain⟨a0,aj,af⟩:=hC.two;clear hC;exact A9
 ):p:=h
theorem Ba{p:Prop}(h:p:=by
 obtain⟨len,hlen,an⟩:=h.ok;have hx:(∃e,x.expr=some e/\gj (bC u) cn.locals e)/\0<=x.target/\(x.op=1->x.c7=true->x.target<u.globals.length)/\(x.op=1->x.c7=false->x.target<f.ints.length):=by
  exact I1
 obtain⟨⟨ex,hex,aK⟩,dx,cF,aV⟩:=hx;exact Bb
 ):p:=h
theorem vV{p:Prop}(h:p:=by
 have ca:l.length=n:=by have:=hl.1;simpa using this
 have cf:k.length=m:=by have:=ap.1;simpa using this
 have bY:=aE ca cf bI;have bq:=ag hl ap;clear ca cf bI hl ap;exact vW
 ):p:=h
theorem Bc{p:Prop}(h:p:=by
 obtain⟨n,nm,b,o,c,bx,Z,a4,E,T,O,hx,e0,e1,e2,e3⟩:=h.rep;injection T with h0 T;injection T with ac T;injection T with au T;injection T with aY T;subst h0 ac au aY;clear T;have cA:=h.ok.1;have aG:lR w G L ng nl g l x [bx,Z,a4,E]:=⟨h.gs,h.ls,h.ok.2,hx⟩
 exact Bd
 ):p:=h
theorem vX{p:Prop}(h:p:=by
 unfold gN at h;rw[bM,fv] at h;obtain⟨y,rfl,h⟩:=h;obtain⟨x,ch,rfl,hx,bb⟩:=dH.1 h;unfold fY at hx;rw[bM,ct] at hx;obtain⟨z,rfl,hx⟩:=hx;exact vY
 ):p:=h
theorem Be{p:Prop}(h:p:=by
 have c8:=a8 0 _ rfl;simp only[Lu] at c8;have cv:=a8 1 _ rfl;have bS:=a8 2 _ rfl;have cW:=a8 3 _ rfl;have H:=a8 4 _ rfl;have cm:=a8 5 _ rfl;have cc:=a8 6 _ rfl;have ca:=a8 7 _ rfl;have cd:=a8 8 _ rfl;have cl:=a8 9 _ rfl;have bM:=a8 10 _ rfl;have bT:=a8 11 _ rfl;exact Bf
 ):p:=h
theorem sY{p:Prop}(h:p:=by
 have c4:gn<=16:=by have:=hp.ou;omega
 have cP:mn<=12:=by have:=hp.wV;omega
 have dJ:fn<=16:=by have:=hp.EG;omega
 exact sZ
 ):p:=h
theorem Bg{p:Prop}(h:p:=by
 obtain⟨hM,J,hG⟩:=h.own hX;obtain⟨GA,gn,gc,MA,mn,mc,FA,fn,fc,aR,cv,bS,cW,H⟩:=h.blk;refine⟨⟨⟨GA,gn,gc,MA,mn,mc,FA,fn,fc,?_,cv,bS,cW.cS hM,H.cS hM⟩,⟨h.base.1,LD h.base.2 hM.fr.size⟩,⟨h.names.1,h.names.2.cS hM⟩,hG⟩,hM⟩;exact Bh
 ):p:=h
theorem Bi{p:Prop}(h:p:=by
 have bd:=ae (show ev g l (.bin op x y)=if (ev g l y).2≠0 then (0,(ev g l y).2) else if op=16\/op=17 then (fo ((ev g l y).1 != 0),0) else arith op v1 (ev g l y).1 by rw[bo.o];simp only[S.o,ne_eq,not_true_eq_false,if_false];rw[if_neg bz,if_neg bn]);exact Bj
 ):p:=h
theorem Bk{p:Prop}(h:p:=by
 have ay:(0:Int)<(d:Int):=ad;obtain⟨i,aK⟩:∃i,d=i+1:=⟨d - 1,ad⟩
 have aE:(d:Int) - 1=((i:Nat):Int):=ad;have bk:i<=1:=ad;have j:=ag aK aE;clear aK aE;have gP:¬wb=s:=ad;have W:¬bL=s:=ad;exact Bl
 ):p:=h
theorem Bm{p:Prop}(h:p:=by
 by_cases aY:0<=th
 case neg=>
  have J:heldBy X T k th=false:=j3 ad;have b8:=ae (no J);have bX:=ae J;have l:th<0:=ad;clear aY no J bc d f P hm;go_wp2
  go_ret2
  exact rG
 have bl:=hT.bound hd (Ln d);exact Bn
 ):p:=h
theorem pM{p:Prop}(h:p:=by
 go_upto_region 1 with(fail);generalize be:World.alloc _ _=W;have aw:=iS be;have bC:=gG be;have bD:=gf be;exact pN
 ):p:=h
theorem Bo{p:Prop}(h:p:=by
 have bh:=ae bd;clear hX bd bg bl aA aO a7 am aF;obtain⟨bl,aA,aO⟩:=bk.two;refine LU (v:=.tuple #[.agg #[.slice bU bW bE,.slice TA tn tc,.slice HA hn hc,.int .i64 s.fault],.bool false]) (by simp[results,Tryz.results19,go_sem,bl]) rfl ?_;exact Bp
 ):p:=h
theorem vZ{p:Prop}(h:p:=by
 have Z:b3.length=fs.length*4:=by rw[D.hj _ _ h.fr,D.gY (z:=4) (λd hd=>by obtain⟨x,_,rfl⟩:=LL.1 hd;rfl),Lo]
 exact v3
 ):p:=h
theorem Bq{p:Prop}(h:p:=by
 obtain⟨O,bn,cj,cY,n,fc,IA,i,ic,S,l,lc,e,hT⟩:=hs.at_.top bI ht;simp only at e;subst e;obtain⟨hF,_,_⟩:=hS.top ht;have y:=hF.tr hp;have r:cW (bC u) cn.locals f.au.length pl:=by rw[y];exact hx
 rw[iB ht];exact Br
 ):p:=h
theorem Bs{p:Prop}(h:p:=by
 refine eC (λ_=>False) [(0,3),(1,0),(2,3),(3,3),(4,3),(5,3),(6,3),(7,3),(8,3),(9,3),(10,2)] ?_;refine pf ?_;refine ph ?_
 iterate 5 refine pf ?_
 rw[show IntKind.i64.wrap ((fs.length:Nat):Int)=(fs.length:Int) from IntWalk.i64_in _ ad];exact Bt
 ):p:=h
theorem Bu{p:Prop}(h:p:=by
 have bN:cj<wr.heap.size:=cx;have aO:bL<wr.heap.size:=dR;have bI:=bY.2.2 f (Ln G);have cn:x=f.ints.length:=by have:=J.1;simpa using this.symm
 have Z:y=f.au.length:=by have:=cg.1;simpa using this.symm
 exact Bv
 ):p:=h
theorem Bw{p:Prop}(h:p:=by
 have a9:S.grownBy ab (Value.slice A n c).ownBlock:=⟨cW.os,cW.tape,cW.output,by have:=cW.size;simp at this;omega,λk ap bf=>(cW.block k (by simp;omega) bf).trans (Below.heap_alloc S _ k ap)⟩
 obtain⟨I,aK,rfl,hc,_⟩:=b5 bS;exact Bx
 ):p:=h
theorem v5{p:Prop}(h:p:=by
 refine dT ?_;refine ao ?_;refine bQ rfl (λK hK=>?_) rfl;go_simp;generalize hV:World.alloc _ _=V;have aR:=aI hV;have bm:=aW hV;clear hV;exact v7
 ):p:=h
theorem By{p:Prop}(h:p:=by
 rintro e b6 ⟨ar,rfl,r,a4⟩;refine dq hK (a4) ?_;clear hK K
 iterate 3 refine tf ?_
 refine ao ?_;refine dT ?_;generalize bF:World.alloc _ _=Z;have e2:=aW bF;have aR:=aI bF;have s2:=aZ.size;have T:=a4.size;have eE:=e2.size;exact Bz
 ):p:=h
theorem BA{p:Prop}(h:p:=by
 obtain⟨O,bn,cj,cY,n,fc,IA,i,ic,S,l,lc,e,hT⟩:=hs.at_.top bI ht;simp only at e;subst e;obtain⟨pb,gP,N,co,cp,b3,v,e,eQ,gu,db,P,bQ,bG,ck⟩:=hu.at_.code hp hx p0 bY;simp only at e;subst e;simp only at gu;exact BB
 ):p:=h
theorem BC{p:Prop}(h:p:=by
 have d0:=(f.cell (p:=⟨b,o,none⟩) O).trans e0;have d1:=(f.cell (p:=⟨b,o+1,none⟩) O).trans e1;have d2:=(f.cell (p:=⟨b,o+2,none⟩) O).trans e2;have d3:=(f.cell (p:=⟨b,o+3,none⟩) O).trans e3;exact BD
 ):p:=h
theorem BE{p:Prop}(h:p:=by
 go_wp2;refine eC (λ_=>False) [(0,3),(1,3),(2,3),(3,3),(4,0),(8,3),(9,0),(10,3),(11,3),(14,3),(5,1),(6,3),(7,3),(12,2),(13,3),(15,3),(16,3),(17,3)] ?_
 iterate 2 refine pf ?_
 refine bu (v:=?_) rfl (by rfl) (λV=>?_) ?_;rotate_left
 .go_simp;exact ep
 try simp only[PU]
 refine pf ?_;refine ph ?_;refine pf ?_;refine ph ?_;refine pf ?_;refine bu (v:=?_) rfl (by rfl) (λV=>?_) ?_;rotate_left
 .go_simp;exact ep
 try simp only[PU]
 refine pf ?_;refine aG rfl (λK hK=>?_);go_simp;refine(aQ.o _ _ _ _ _ _ _ (D.on bf.o (Fr.ext LW.drew)) f.o).mono ?_;rintro e aS ⟨rfl,ar⟩;refine dq hK (ar) ?_;clear hK K;refine bu (v:=?_) rfl (by rfl) (λV=>?_) ?_;rotate_left
 .go_simp;exact ep
 try simp only[PU]
 refine bu (v:=?_) rfl (by rfl) (λV=>?_) ?_;rotate_left
 .go_simp;exact ep
 try simp only[PU]
 refine ax rfl (λK hK=>?_);go_simp;rw[q.o];refine((show hv th from a4.th) (t+1) A2 n2 c2 _ M.o (Y.on (Fr.ext (Fr.aF ar))) I.o).mono ?_;rintro e aU ⟨rfl,bL⟩;refine dP hK ?_;clear hK K;refine bu (v:=?_) rfl (by rfl) (λV=>?_) ?_;rotate_left
 .go_simp;exact ep
 try simp only[PU]
 refine bu (v:=?_) rfl (by rfl) (λV=>?_) ?_;rotate_left
 .go_simp;exact ep
 try simp only[PU]
 refine bu (v:=?_) rfl (by rfl) (λV=>?_) ?_;rotate_left
 .go_simp;exact ep
 try simp only[PU]
 refine pf ?_;refine aC ?_;have bx:=ae ((Fr.aF ar).trans bL);obtain⟨v0,ay⟩:=Fr.tM bx.o;clear ar bL;exact xL
 ):p:=h
theorem BF{p:Prop}(h:p:=by
 rintro e aS ⟨rfl,ar⟩;refine dq hK (ar) ?_;clear hK K;refine bu (v:=?_) rfl (by rfl) (λV=>?_) ?_;rotate_left
 .go_simp;exact ep
 try simp only[PU]
 refine bu (v:=?_) rfl (by rfl) (λV=>?_) ?_;rotate_left
 .go_simp;exact ep
 try simp only[PU]
 exact BW
 ):p:=h
theorem BG{p:Prop}(h:p:=by
 go_wp2_with(fail);generalize hX:World.setCell _ _ _=X;obtain⟨br,bs,cz⟩:=bw (w:=w) [.int .i64 0,.int .i64 0,.slice none 0 0,.slice none 0 0] (by rfl) bo.2 bo.1 ad hX;have aQ:=ae bs;clear hX bs cz a0 aj af bl aA aO ck;exact I0
 ):p:=h
theorem BH{p:Prop}(h:p:=by
 clear hx g hd;go_wp2;go_quiet (fail)
 go_wp2;go_roundw
 case rel=>
  refine⟨k+1,ad,by go_num,λj bi=>?_,dK O _⟩;by_cases z:j<k
  .exact aA.o j z
  .obtain rfl:j=k:=ad;exact aQ.o
 case measure=>exact aH
 ):p:=h
theorem BI{p:Prop}(h:p:=by
 obtain⟨bl,aA,aO⟩:=br.two;refine LU (v:=.tuple #[.agg #[.int .i64 0,.int .i64 0,.slice none 0 0,.slice none 0 0],.bool false]) (by simp[results,Tryz.results75,go_sem,bl]) rfl ?_;exact⟨rfl,aQ.o⟩
 ):p:=h
theorem BJ{p:Prop}(h:p:=by
 rw[bX.o];exact fi (B:=V.heap.size) bu.1 bh.2 (λb O=>⟨λhl=>by have:=G.o b hl;omega,ad⟩) (λb O=>by have:=G.o b O;omega) ad bh.1 (by rw[eh bZ.2.1])
 ):p:=h
theorem BL{p:Prop}(h:p:=by
 refine eC (λ_=>False) [(0,3),(1,3),(2,3),(3,0),(4,3),(5,0),(6,3),(7,3),(8,2)] ?_
 iterate 3 refine pf ?_
 refine ph ?_;refine pf ?_;refine ph ?_
 iterate 2 refine pf ?_
 exact eT
 ):p:=h
theorem BM{p:Prop}(h:p:=by
 refine eC (λb=>b=s) [(0,3),(1,3),(3,3),(4,0),(5,3),(6,3),(7,3),(9,3),(2,1),(8,2),(10,2),(11,3),(12,2),(13,3),(14,2)] ?_
 iterate 3 refine pf ?_
 exact HN
 ):p:=h
theorem BN{p:Prop}(h:p:=by
 go_wp2_with(fail);refine(aQ.o rs ce cD rc W ab.o f.o).mono ?_;rintro e aS ⟨rfl,ar⟩;have bx:=ae ar;clear ar;exact xL
 ):p:=h
theorem s0{p:Prop}(h:p:=by
 refine dP hK ?_;clear hK K;refine pf ?_;exact eT
 ):p:=h
theorem BO{p:Prop}(h:p:=by
 obtain⟨e0,a6,aP⟩:=aR.two;have bO:=ae aR;clear a0 aj af h he aR hx aN bo;go_wp2_with(fail);exact HO
 ):p:=h
theorem BP{p:Prop}(h:p:=by
 by_cases bi:j<i
 .exact bo.2 j bi
 .rw[List.getElem?_eq_none (aD bY.1),List.getElem?_eq_none (aD bY.2.1)]
 ):p:=h
theorem BQ{p:Prop}(h:p:=by
 clear hx g hd;go_wp2;go_quiet (fail)
 go_wp2;go_ret;exact⟨ret_bool (by rw[a3.o]),dK O _⟩
 ):p:=h
theorem BR{p:Prop}(h:p:=by
 go_wp2;go_roundw
 case rel=>exact⟨k+1,ad,by go_num,aX.o,bB.o⟩
 case measure=>exact aH
 ):p:=h
theorem BS{p:Prop}(h:p:=by
 rintro a3 az j bD ⟨ay,ai,bC,gt,bi⟩;obtain⟨bx,a5,aT⟩:=bC.two;exact fp
 ):p:=h
theorem BU{p:Prop}(h:p:=by
 have dZ:O<cS.heap.size:=ad
 iterate 2 refine pf ?_
 exact eT
 ):p:=h
theorem BV{p:Prop}(h:p:=by
 refine ph ?_;refine bu (v:=?_) rfl (by rfl) (λV=>?_) ?_;rotate_left
 .go_simp;exact ep
 try simp only[PU]
 refine pf ?_;refine ph ?_;refine aG rfl (λK hK=>?_);go_simp;refine(aQ.o bZ n1 c1 _ (Q.on (Fr.ext LW.drew)) f.o X.o).mono ?_;exact BF
 ):p:=h
theorem BW{p:Prop}(h:p:=by
 refine pf ?_;refine aC ?_;have bx:=ae (Fr.aF ar);clear ar;exact xL
 ):p:=h
end Go.Proofs.YtkhnkojkplbioaaGreat
