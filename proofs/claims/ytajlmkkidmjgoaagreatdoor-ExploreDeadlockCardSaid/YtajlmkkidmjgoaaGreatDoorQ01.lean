/- Part 1 of the proof. No condition of its own. -/
import Derived.BigQuiet
import Derived.Deep.Cut
import Derived.Deep.DrawnRows
import Derived.Deep.Draws
import Derived.Deep.QuietTactic
import Derived.Deep.RegionHeld3
import Derived.DeepKeys
import Derived.Handy
import Derived.IntWalk
import Derived.Laws.CopyOwn
import Derived.Laws.IdiomStrings
import Derived.Laws.StructEq
import Derived.Lib.Bytes
import Derived.Lib.ItoaNum
import Derived.Lib.SlBytesRow
import Derived.Maps.AppendAt
import Derived.OrdersHeld
import Derived.RegionTactic
import Derived.StillTail
import Derived.Test.YtajlmkkidmjgoaaGreatDoorRows
import Derived.WalkKit
import Derived.WalkLawsBesides
import Derived.WalkSpells
import Derived.Test.YtajlmkkidmjgoaaGreatDoorQ00
namespace Go.Proofs.YtajlmkkidmjgoaaGreatDoor
open Go.RowKit Go.Proofs.Tryz
set_option maxRecDepth 1000000
set_option maxHeartbeats 25600000
set_option linter.unusedVariables false
theorem Hx:type_of% @Nat.le_refl:=@Nat.le_refl
theorem Hy:type_of% @Nat.lt_of_lt_of_le:=@Nat.lt_of_lt_of_le
theorem Hz:type_of% @List.length_append:=@List.length_append
theorem Ia:type_of% @List.mem_of_getElem?:=@List.mem_of_getElem?
theorem Ib:type_of% @List.length_map:=@List.length_map
theorem Ic:type_of% @Int.eq_ofNat_of_zero_le:=@Int.eq_ofNat_of_zero_le
theorem Ie:type_of% @List.map_cons:=@List.map_cons
theorem Ig:type_of% @List.map_append:=@List.map_append
theorem Ih:type_of% @List.take_of_length_le:=@List.take_of_length_le
theorem Ii:type_of% @List.mem_append:=@List.mem_append
theorem Ij:type_of% @Nat.add_zero:=@Nat.add_zero
theorem Ik:type_of% @List.length_singleton:=@List.length_singleton
theorem Il:type_of% @Bool.and_eq_true:=@Bool.and_eq_true
theorem Im:type_of% @List.length_cons:=@List.length_cons
theorem Io:type_of% @List.append_assoc:=@List.append_assoc
theorem Ip:type_of% @List.cons_append:=@List.cons_append
theorem Iq:type_of% @List.mem_cons:=@List.mem_cons
theorem Ir:type_of% @Nat.le_trans:=@Nat.le_trans
theorem It:type_of% @Nat.zero_add:=@Nat.zero_add
theorem Iu:type_of% @List.length_nil:=@List.length_nil
theorem Iv:type_of% @List.flatMap_cons:=@List.flatMap_cons
theorem Iw:type_of% @Int.toNat_natCast:=@Int.toNat_natCast
theorem Ix:type_of% @Nat.zero_le:=@Nat.zero_le
theorem Iy:type_of% @List.map_nil:=@List.map_nil
theorem Iz:type_of% @List.mem_map:=@List.mem_map
theorem IB:type_of% @List.append_nil:=@List.append_nil
theorem IC:type_of% @List.nil_append:=@List.nil_append
theorem ID:type_of% @List.mem_singleton:=@List.mem_singleton
theorem IE:type_of% @Option.some.injEq:=@Option.some.injEq
theorem IF:type_of% @List.drop_eq_nil_of_le:=@List.drop_eq_nil_of_le
theorem IG:type_of% @decide_eq_true_eq:=@decide_eq_true_eq
theorem II:type_of% @Bool.false_eq_true:=@Bool.false_eq_true
theorem IJ:type_of% @bodyPost_ret:=@bodyPost_ret
theorem IK{M:Nat->Prop}{w:World}:Fr M w w:=Fr.refl _ _
theorem IL{w:World}{t:TypeId}{cs:Array Value}:an (w.alloc (.cells cs t)) w.heap.size t cs:=an.new _ _ _
theorem ad{p:Prop}(h:p:=by omega):p:=h
theorem aC{p q:Prop}(x:q)(h:q->p:=by intro this;omega):p:=h x
theorem mI{p q r:Prop}(x:q)(y:r)(h:q->r->p:=by intro this this;omega):p:=h x y
theorem aN{A B:Prop}(a:A)(b:B):IS A/\IS B:=⟨ae a,ae b⟩
theorem eD{A B C:Prop}(a:A)(b:B)(c:C):IS A/\IS B/\IS C:=⟨ae a,ae b,ae c⟩
theorem ih{A B C D:Prop}(a:A)(b:B)(c:C)(d:D):IS A/\IS B/\IS C/\IS D:=⟨ae a,ae b,ae c,ae d⟩
theorem Av{A B C D E:Prop}(a:A)(b:B)(c:C)(d:D)(e:E):IS A/\IS B/\IS C/\IS D/\IS E:=⟨ae a,ae b,ae c,ae d,ae e⟩
theorem Aw{A B C D E F G:Prop}(a:A)(b:B)(c:C)(d:D)(e:E)(f:F)(g:G):IS A/\IS B/\IS C/\IS D/\IS E/\IS F/\IS G:=⟨ae a,ae b,ae c,ae d,ae e,ae f,ae g⟩
theorem aF{p:Prop}(h:p:=by simp[intOf];omega):p:=h
theorem ai{A B:Prop}(a:A)(b:B):IS (A/\B):=ae ⟨a,b⟩
theorem aL{A B C:Prop}(a:A)(b:B)(c:C):IS (A/\B/\C):=ae ⟨a,b,c⟩
theorem bF{A B C D:Prop}(a:A)(b:B)(c:C)(d:D):IS (A/\B/\C/\D):=ae ⟨a,b,c,d⟩
theorem cK{A B C D E:Prop}(a:A)(b:B)(c:C)(d:D)(e:E):IS (A/\B/\C/\D/\E):=ae ⟨a,b,c,d,e⟩
theorem eU{A B C D E F:Prop}(a:A)(b:B)(c:C)(d:D)(e:E)(f:F):IS (A/\B/\C/\D/\E/\F):=ae ⟨a,b,c,d,e,f⟩
theorem iK{A B C D E F G:Prop}(a:A)(b:B)(c:C)(d:D)(e:E)(f:F)(g:G):IS (A/\B/\C/\D/\E/\F/\G):=ae ⟨a,b,c,d,e,f,g⟩
theorem r7{A B C D E F G H:Prop}(a:A)(b:B)(c:C)(d:D)(e:E)(f:F)(g:G)(h:H):IS (A/\B/\C/\D/\E/\F/\G/\H):=ae ⟨a,b,c,d,e,f,g,h⟩
theorem yx{A B C D E F G H I:Prop}(a:A)(b:B)(c:C)(d:D)(e:E)(f:F)(g:G)(h:H)(i:I):IS (A/\B/\C/\D/\E/\F/\G/\H/\I):=ae ⟨a,b,c,d,e,f,g,h,i⟩
theorem DF{A B C D E F G H I J:Prop}(a:A)(b:B)(c:C)(d:D)(e:E)(f:F)(g:G)(h:H)(i:I)(j:J):IS (A/\B/\C/\D/\E/\F/\G/\H/\I/\J):=ae ⟨a,b,c,d,e,f,g,h,i,j⟩
theorem bm{w W:World}{o1:Obj}(h:w.alloc o1=W):Ext w W:=by subst h;exact IK.alloc _
theorem hJ{w W:World}{o1 fg:Obj}(h:(w.alloc o1).alloc fg=W):Ext w W:=by subst h;exact(IK.alloc _).alloc _
theorem pT{w W:World}{o1 fg dk:Obj}(h:((w.alloc o1).alloc fg).alloc dk=W):Ext w W:=by subst h;exact((IK.alloc _).alloc _).alloc _
theorem Gx{w W:World}{o1 fg dk dL:Obj}(h:(((w.alloc o1).alloc fg).alloc dk).alloc dL=W):Ext w W:=by subst h;exact(((IK.alloc _).alloc _).alloc _).alloc _
theorem aU{w W:World}{t:TypeId}{cs:Array Value}(h:w.alloc (.cells cs t)=W):an W (w.heap.size) t cs:=by subst h;exact IL
theorem fA{w W:World}{fg:Obj}{t:TypeId}{cs:Array Value}(h:(w.alloc (.cells cs t)).alloc fg=W):an W (w.heap.size) t cs:=by subst h;exact(IL).alloc _
theorem fB{w W:World}{o1:Obj}{t:TypeId}{cs:Array Value}(h:(w.alloc o1).alloc (.cells cs t)=W):an W (w.heap.size+1) t cs:=by subst h;exact an.fu _ _ _ (by simp)
theorem lT{w W:World}{fg dk:Obj}{t:TypeId}{cs:Array Value}(h:((w.alloc (.cells cs t)).alloc fg).alloc dk=W):an W (w.heap.size) t cs:=by subst h;exact((IL).alloc _).alloc _
theorem kZ{w W:World}{o1 dk:Obj}{t:TypeId}{cs:Array Value}(h:((w.alloc o1).alloc (.cells cs t)).alloc dk=W):an W (w.heap.size+1) t cs:=by subst h;exact(an.fu _ _ _ (by simp)).alloc _
theorem nh{w W:World}{o1 fg:Obj}{t:TypeId}{cs:Array Value}(h:((w.alloc o1).alloc fg).alloc (.cells cs t)=W):an W (w.heap.size+2) t cs:=by subst h;exact an.fu _ _ _ (by simp)
theorem EB{w W:World}{o1 fg:Obj}{t:TypeId}{cs:Array Value}(h:((w.alloc o1).alloc fg).alloc (.cells cs t)=W):an W (w.heap.size+1+1) t cs:=by subst h;exact an.fu _ _ _ (by simp)
theorem FG{w W:World}{fg dk dL:Obj}{t:TypeId}{cs:Array Value}(h:(((w.alloc (.cells cs t)).alloc fg).alloc dk).alloc dL=W):an W (w.heap.size) t cs:=by subst h;exact(((IL).alloc _).alloc _).alloc _
theorem FH{w W:World}{o1 dk dL:Obj}{t:TypeId}{cs:Array Value}(h:(((w.alloc o1).alloc (.cells cs t)).alloc dk).alloc dL=W):an W (w.heap.size+1) t cs:=by subst h;exact((an.fu _ _ _ (by simp)).alloc _).alloc _
theorem FI{w W:World}{o1 fg dL:Obj}{t:TypeId}{cs:Array Value}(h:(((w.alloc o1).alloc fg).alloc (.cells cs t)).alloc dL=W):an W (w.heap.size+2) t cs:=by subst h;exact(an.fu _ _ _ (by simp)).alloc _
theorem FJ{w W:World}{o1 fg dk:Obj}{t:TypeId}{cs:Array Value}(h:(((w.alloc o1).alloc fg).alloc dk).alloc (.cells cs t)=W):an W (w.heap.size+3) t cs:=by subst h;exact an.fu _ _ _ (by simp)
theorem gX{w W:World}{o1:Obj}(h:(w.alloc o1).drew=W):Ext w W:=by subst h;exact(IK.alloc _).drew
theorem lU{w W:World}{t:TypeId}{cs:Array Value}(h:(w.alloc (.cells cs t)).drew=W):an W (w.heap.size) t cs:=by subst h;exact(IL).drew
theorem cT{w X:World}{g o:Nat}{v:Value}(h:w.setCell ⟨g,o,none⟩ v=X):Fr (λb=>b=g) w X:=by subst h;exact(Fr.refl (λb=>b=g) w).setCell (.inl rfl) _
theorem CD{w X:World}{g o p:Nat}{v u:Value}(h:(w.setCell ⟨g,o,none⟩ v).setCell ⟨g,p,none⟩ u=X):Fr (λb=>b=g) w X:=by subst h;exact((Fr.refl (λb=>b=g) w).setCell (.inl rfl) _).setCell (.inl rfl) _
theorem DG{p:Prop}(h:p:=by
 have bV:=ae (bZ.o a1);clear bZ bs;go_wp2_with(fail);refine(fj s bE TA HA bM br tn tc hn hc aT (ay.2.2.2.2.2.2.1.on a3.o).at_ aV.sm).mono ?_;rintro e b4 ⟨a4,aW,aX,S,bc,aZ,xs,aq,ar,bN,bR,rfl,b1,bq,aG⟩;have bI:=aL b1 bq aG;have cx:=aG.size;clear b1 bq aG be am aH d0 aP aQ;go_upto_region 13 with(fail);generalize hV:World.alloc _ _=V;have bg:=bm hV;have bK:=aU hV;have hOut:dd aO.heap.size V s b4.heap.size ⟨a4,bM,aW,aX,tn,S,bc,hn,aZ⟩ xs aq ar bN bR:=
  ⟨bI.1.al λb O=>bg.block b (bI.2.1 b O).2 λh=>h,bK,λO=>by have:=(bI.2.1 _ O).2;omega,λb O=>⟨by have:=(bI.2.1 b O).1;omega,by have:=(bI.2.1 b O).2;have:=bg.size;omega⟩,ad⟩
 have al:Ext W V:=(a3.trans bI.2.2).trans bg;have r:V.ownsRow 0 137 2 (.slice aE tn L) tn (T.flatMap ca):=mj (b5 (b5 bX.1 (Fr.ext bI.2.2)) (Fr.ext bg)) (Ix _);have y:∀b∈bt aE tn L,aO.heap.size<=b/\b<aT.heap.size:=λb O=>bX.1.lt b (by simpa using O);have ce:=bF hOut al r y;obtain⟨e0,bn,a0⟩:=hOut.o.two;clear hV bg bK hOut al r y;go_upto_region 14 with(fail);generalize hX:World.setCell _ _ _=X;have ab:dd aO.heap.size X {s with table:=T} b4.heap.size ⟨a4,bM,aW,aE,tn,L,bc,hn,aZ⟩ xs aq (bt aE tn L) bN bR:=
  ce.1.Gp ce.2.2.1 bX.2 (λb O=>⟨λhm=>by have:=(bI.2.1 b hm).1;have:=(ce.2.2.2 b O).2;omega,by have:=(ce.2.2.2 b O).2;omega,(ce.2.2.2 b O).1⟩) hX
 have bT:=cT hX;have bO:Ext W X:=Fr.low (M:=λb=>b=b4.heap.size) (Fr.trans (Fr.mono ce.2.1 λ_ h=>h.elim) bT) λb O=>ad;obtain⟨cX,c1,i2,cZ,cY,dc,c4,c0,bS,cD,ap⟩:=ab.top (fs:=fs) (f:=f) bG.2.2.1 bG.2.1 bG.1 bG.2.2.2.1;have J:=aL cD ap bO;clear e0 bn a0;obtain⟨e0,bn,a0⟩:=ab.o.two;clear hX ab bT bO cD ap c0 bS;go_wp2_with(fail);refine(J.1 X IK).mono ?_;rintro e eG ⟨rfl,aS⟩;have aF:=ae (J.2.1 eG aS);have cv:=ae (J.2.2.trans aS);clear e0 bn a0 aS;have b0:=aF.c1;have g2:=aF.fz;have cB:=aF.lt;have cQ:=b9.2.2.1;go_upto_region 15 with(fail);generalize hX:World.setCell _ _ _=Y;have cN:qU aO.heap.size Y {s with table:=T,threads:=s.threads.set t.toNat (fs++[next f])} b4.heap.size ⟨a4,bM,aW,aE,tn,L,bc,hn,aZ⟩ xs aq (bt aE tn L) bN bR t fs (next f) cX c1 i2 cZ cY dc c4:=hX▸aF.Gm bG.2.2.1 (f.pc+1);have P:=cT hX;have dj:=aF.ge;have aM:Ext W Y:=Fr.low (M:=λb=>b=cX) (Fr.trans (Fr.mono cv.o λ_ h=>h.elim) P) λb O=>ad;have bY:=aL cN.oz (ay.2.2.2.2.1.aj aM) (ay.1.trans aM);obtain⟨bD,aK,a9⟩:=bY.2.1.two;obtain⟨e0,bn,a0⟩:=cN.oz.o.two;clear hX cN P aM b0 g2 cB aF;go_wp2_with(fail);generalize hX:World.setCell _ _ _=Z;obtain⟨bB,bl,a6⟩:=cO (w:=w) [.slice a4 bM aW,.slice aE tn L,.slice bc hn aZ,.int .i64 s.fault] (by rfl) bY.2.1 bY.2.2 ad hX;have i:=ai bl a6;clear hX bl a6 bD aK a9 e0 bn a0;obtain⟨bD,aK,a9⟩:=bB.two;refine IJ (v:=.tuple #[.agg #[.slice a4 bM aW,.slice aE tn L,.slice bc hn aZ,.int .i64 s.fault],.bool true]) (by simp[results,Tryz.results72,go_sem,bD]) rfl ?_;rw[bV.o]
 show dP mF w {bf s t (next f) with table:=T} true _ _
 exact gB (bP:={bf s t (next f) with table:=T}) (q:=⟨a4,bM,aW,aE,tn,L,bc,hn,aZ⟩) bY.1 i.2 (λb O=>ad) ad i.1 (by rw[fG bG.2.2.1])
 ):p:=h
theorem dQ{p:Prop}(h:p:=by
 rw[if_neg (by first|omega|(simp only[ByteArray.size_append];omega)|(simp;omega))]
 ):p:=h
theorem DH{p:Prop}(h:p:=by
 have dz:=bF K s x b2.2.2;clear K s x b1 ar av;have gq:=dz.2.1.size;by_cases f0:j+1<N
 .refine(show Calls prog 62 #[.pointer (some ⟨g,0,none⟩),.string ⟨#[44]⟩] cG _ from cp [44] g A n c T (k+1+3*j+2) deep cG dz.1 true (by rw[bG.2.2.co j ad];exact decide_eq_true ad) (λ_=>ad)).mono ?_;rintro e cz ⟨rfl,U,i⟩;have P:=aL (show bu cz g A n c T (k+1+3*(j+1)) deep from by rw[show k+1+3*(j+1)=k+1+3*j+2+1 by omega];simpa using U) (dz.2.1.trans i) (dz.2.2.1.dh i λb O _=>⟨ad,ad⟩);clear U i;go_wp2_with(fail);go_roundw
  case rel=>exact⟨j+1,cl,c3,rfl,f0,P.o⟩
  case measure=>simp[Bn];omega
 .refine(show Calls prog 62 #[.pointer (some ⟨g,0,none⟩),.string ⟨#[44]⟩] cG _ from cp [44] g A n c T (k+1+3*j+2) deep cG dz.1 false (by rw[bG.2.2.co j ad];exact decide_eq_false ad) (λh=>by cases h)).mono ?_;rintro e cz ⟨rfl,U,i⟩;have P:=aL (show bu cz g A n c T (k+1+3*j+2) deep from by simpa using U) (dz.2.1.trans i) (dz.2.2.1.dh i λb O _=>⟨ad,ad⟩);clear U i;go_wp2_with(fail);refine(show Calls prog 97 #[.pointer (some ⟨g,0,none⟩),.string ⟨#[41]⟩] cz _ from jE [41] g A n c T (k+1+3*j+2) deep cz P.1 (bG.2.2.cl j ad) ad).mono ?_;rintro e fn ⟨rfl,U,u⟩;have M:=P.2.2.dh u λb O _=>⟨ad,ad⟩
  have q:=aL (show bu fn g A n c T (k+1+3*N) deep from by rw[show k+1+3*N=k+1+3*j+2+1 by omega];exact U) (P.2.1.trans u) M;clear U u M;go_wp2_with(fail);go_ret;refine⟨cl,j+1,c3,rfl,dz.2.2.2,by rw[hN];exact q.1,q.2.1,?_⟩;have bS:=q.2.2;rw[Ih ad] at bS;exact bS.sl (λb al O=>⟨O,al⟩) (λb al O=>⟨O,al⟩)
 ):p:=h
theorem DI{p:Prop}(h:p:=by
 go_upto_region 31 with(fail);refine eB (λ_=>False) [(0,3),(1,3),(2,3),(3,3),(4,3),(5,0),(6,0),(7,1),(8,2),(9,3),(10,3),(11,3),(12,2)] ?_
 iterate 5 refine pf ?_
 iterate 2 refine ph ?_
 refine p2 ?_;generalize cl:World.drew (World.alloc _ _)=Z;have bl:=gX cl;have bB:=lU cl;have bw:=hv.next (hv.src.cz bl λ_ _ h=>h) (bl.mono λ_ h=>h.elim);have eJ:=bV.2.2.2.aj bl;have ha:∀b,(Value.slice FA i fc).ownBlock=some b->u<=b/\b<T.heap.size:=λb O=>b9.fs.lt O;have iu:=b9.hD;have b8:Sl Z (kJ (λb=>u<=b) Z (.slice FA i fc)) PA pn (ps.map ch):=eJ.sl (λb _ h=>h.elim) (λb O aS=>⟨ad,O,λh=>by have:=(ha b h).2;omega⟩);have ir:T.heap.size<=Z.heap.size:=by have:=bV.2.1.size;have:=bl.size;omega
 have a2:=bF bw bB b8 bV.2.2.2.cap.1;have h3:=ae ha;have iw:=b9.blk.lt;clear cl bl bB bw eJ b8 ha aI aj af f0 c6 e1;refine au rfl (λK hK=>?_);rw[if_pos (by rfl)];refine eK EH (.tmp 177) (.tmp 179) (by rfl) a2.1.fs a2.2.1 (Dj a2.2.2.2 a2.2.2.1) (by rfl) (by rfl) (by rfl) ad ad ad ?_;intro hY hR fn bz z ck cc;have aY:=a2.1.blk.on z (λO=>by have:=(h3.o _ O).1;omega);have aZ:=ai bz z;clear bz z ck cc;obtain⟨aI,aj,af⟩:=aY.two;clear aY;refine dW hK ?_;clear hK K
 iterate 3 refine pf ?_
 refine au rfl (λK hK=>?_);go_simp;refine dW hK ?_;clear hK K;refine aB ?_;generalize cf:World.setCell _ _ _=hf;obtain⟨bH,L,gI⟩:=h4.o;have f:=a2.1.add aZ.1 aZ.2 ad (b9.GI.snoc b7 L gI gH.1);rw[cf] at f;have bR:=ae f;clear cf f aI aj af gI;go_wp2_with(fail);go_roundw
 case rel=>exact⟨i+1,hY,hR,F++[⟨iU i,ps,.nil⟩],by go_num,ad,bR.o⟩
 case measure=>exact aF
 ):p:=h
theorem vC{p:Prop}(h:p:=by
 go_wp2;go_roundw
 case rel=>exact⟨k+1,ad,by go_num,by rw[<-aP.o],bf.trans (R.trans bh.o)⟩
 case measure=>exact aF
 ):p:=h
theorem DJ{p:Prop}(h:p:=by
 have a3:=ai ab bq;have bK:=ay.2.2.2.1.on bI.2 (λh=>by have:=ay.2.2.2.2;omega);have aJ:=ae bK;obtain⟨e0,bn,a0⟩:=bK.two;clear h he ab bq bK;go_wp2_with(fail);generalize ca:World.setCell _ _ _=Y;obtain⟨bk,bt,bj⟩:=dG (M:=λb=>b=s) [.int .i64 1,.int .i64 cC,.string ⟨#[]⟩,.slice none 0 0] (by rfl) aJ.o (ay.2.2.1.trans bI.2) (Hx _) ca;obtain⟨bD,aK,a9⟩:=bk.two;refine IJ (v:=.agg #[.int .i64 1,.int .i64 cC,.string ⟨#[]⟩,.slice none 0 0]) (by simp[results,Tryz.results78,go_sem,bD]) rfl ?_;exact⟨.num cC,none,0,0,rfl,(by cases d<;>exact a3.o),Hx _,Sl.bH _,bI.1.cz bj (λb O h=>by have:=ay.2.2.2.2;omega),bt⟩
 ):p:=h
theorem DK{p:Prop}(h:p:=by
 have c0:=Z 0 b1 rfl;have c1:=Z 1 cj rfl;have c2:=Z 2 bp rfl;have c3:=Z 3 aJ rfl;simp only[Ij] at c0;have aX:b<wr.heap.size:=O;clear Z O;obtain⟨B,bN,bc,e,cx,cb⟩:=aW.1 P;simp only[List.cons.injEq,and_true] at e;obtain⟨rfl,rfl,rfl,rfl⟩:=e;obtain⟨bY,H⟩:=aN a4 P;clear a4 P cb;go_wp2_with(fail);refine(c6.o k z bY.o _ _ _ _ _ _ wr H.o).mono ?_;rintro e aT ⟨rfl,bx⟩;have a3:=ae (bf.trans bx);have b6:=ae (a7.aj bx);clear bx;exact zg
 ):p:=h
theorem DL{p:Prop}(h:p:=by
 go_wp2_with(fail);refine(show Calls prog 97 #[.pointer (some ⟨g,0,none⟩),.string ⟨#[40]⟩] w _ from jE [40] g A n c T k deep w H.o bG.1 ad).mono ?_;rintro e aO ⟨rfl,U,hF⟩;have H1:=ai U hF;clear U hF;go_wp2_with(fail);refine(show Calls prog 62 #[.pointer (some ⟨g,0,none⟩),.string ⟨#[41]⟩] aO _ from cp [41] g A n c T (k+1) deep aO H1.1 true bG.2 (λ_=>ad)).mono ?_;rintro e aT ⟨rfl,U,hF⟩;have bi:=ai (show bu aT g A n c T (k+2) deep from by simpa using U) (H1.2.trans hF);clear U hF H1;go_wp2_with(fail);go_ret;exact⟨rfl,bi.o⟩
 ):p:=h
theorem DM{p:Prop}(h:p:=by
 obtain⟨b,o,t,N,O,hx,hc⟩:=m.int al;subst N;have aV:=ae hx;clear m hx bj;go_wp2_with(fail);refine(BH u (0+min k l.length) t W _ ⟨GA,gn,gc,MA,mn,mc,PA,pn,pc⟩ g q D s L F _ _ bv.o ay.2.2.1 a8.2.1 ad ad a8.1).mono ?_;rintro e eG ⟨rfl,dq,R,J,E,ar,bu⟩;have cP:=ae bu;clear bu;go_wp2_with(fail);go_roundw
 case rel=>
  have hs:=a8.2.2.1 t aV.o;refine⟨k+1,dq,R,J,E,ar,by go_num,ad,?_⟩;rw[hs.1,hs.2];exact cP.o
 case measure=>exact aF
 ):p:=h
theorem DN{p:Prop}(h:p:=by
 rw[a0 bG.o,pq,<-List.append_assoc,Ig,bR];have ac:=(bb.cU (ab:=X) bT.size λb al hp=>bT.block b al λhe=>by
  subst he;rcases hp with hp|hp
  .exact hp.elim
  .exact cg.1 hp).cU (ab:=cQ) ak.size λb al hp=>ak.block b al λhe=>by
  subst he;rcases hp with hp|hp
  .exact hp.elim
  .exact cg.2 hp
 show Gr (λ_=>False) W.heap.size 113 3 cQ A2 (ln+k+1) c2 _
 simpa using ac
 ):p:=h
theorem DO{p:Prop}(h:p:=by
 go_wp2_with(fail);generalize ca:World.setCell _ _ _=Y;obtain⟨bk,bt,bj⟩:=dG (M:=λ_=>False) [.slice none 0 0,.slice none 0 0,.slice none 0 0] (by rfl) bs.2.2.1 (w:=w) bs.1 ad ca;obtain⟨bD,aK,a9⟩:=bk.two;refine IJ (v:=.tuple #[.agg #[.slice none 0 0,.slice none 0 0,.slice none 0 0],.int .i64 11]) (by simp[results,Tryz.results18,go_sem,bD]) rfl ?_;exact⟨_,_,_,_,_,_,_,_,_,_,rfl,bt⟩
 ):p:=h
theorem DP{p:Prop}(h:p:=by
 go_wp2_with(at_builtin;refine cI aT j2 rfl (.tmp 28) (.tmp 30) rfl (w.heap.size+1) _ k _ #[_] rfl aD.o rfl rfl (by simp[Value.oneCell']) ad ad cb ?_;intro ao b4 f f1 aB;obtain⟨cl,c3,rfl,bz,_⟩:=bI f);go_roundw
 case rel=>
  refine⟨k+1,ad,by go_num,l.on (EP aD.o f1 λg aM=>aM),?_⟩;rw[vd S.o,<-aP.o];exact f
 case measure=>exact aF
 ):p:=h
theorem DQ{p:Prop}(h:p:=by
 rintro a2 be ⟨rfl,ar⟩;have aL:=ae (X.trans ar);have aV:=ae (aM.trans ar);have bv:=ae (ao.aj ar);have bP:=ae (bP.aj ar);clear aI aj af X aM ao;obtain⟨aI,aj,af⟩:=bP.two;clear aI aj af;obtain⟨aI,aj,af⟩:=bP.two;go_wp2;go_roundw
 case rel=>exact⟨j+1,ad,by go_num,aL.o,aV.o,bv.o⟩
 case measure=>exact aF
 ):p:=h
theorem Ax{p:Prop}(h:p:=by
 constructor
 .rintro⟨y,rfl,h⟩;rw[a2] at h;obtain⟨bp,rfl,h⟩:=h;rw[aM] at h;subst h;rfl
 .rintro rfl;exact⟨_,rfl,a2.2 ⟨_,rfl,aM.2 rfl⟩⟩
 ):p:=h
theorem r8{p:Prop}(h:p:=by
 go_enter func74,ntmps74;go_wp2_with(fail);go_ret;exact⟨rfl,IK.alloc _⟩
 ):p:=h
theorem vD{p:Prop}(h:p:=by
 generalize (Value.agg #[.int .i64 x.aZ,.int .i64 x.numOf,.string x.bg,.slice cy cp cD])=Y;intro aT;exact key a8 Y _ aT
 ):p:=h
theorem vE{p:Prop}(h:p:=by
 go_wp2;go_roundw
 case rel=>exact⟨k+1,ad,by go_num,by rw[<-aP.o],bh.o⟩
 case measure=>exact aF
 ):p:=h
theorem DR{p:Prop}(h:p:=by
 rintro e aG ⟨rfl,he⟩;have a3:=ae (bh.trans he);have y:=ae (m.trans he);have b6:=ae (G.aj he);clear he aI aj af bh m G;obtain⟨aI,aj,af⟩:=b6.two;go_wp2;refine wp_loop_rounds 1 ?_;rw[rounds_succ];go_wp2;go_roundw
 case rel=>exact⟨k+1,ad,by go_num,a3.o⟩
 case measure=>exact aF
 ):p:=h
theorem vF{p:Prop}(h:p:=by
 rcases O with O|O
 .rw[O] at hc;exact aX.2.2 hc
 .rw[O] at hc;injection hc with hc;have:=aX.2.1;omega
 ):p:=h
theorem vG{p:Prop}(h:p:=by
 refine fin _ λs hs=>?_;rcases Iq.1 hs with rfl|hs
 .exact⟨c,c⟩
 .exact aa.2 s hs
 ):p:=h
theorem DS{p:Prop}(h:p:=by
 exact zg
 ):p:=h
theorem Ay{p:Prop}(h:p:=by
 obtain⟨A,n,c,ac,J,aR⟩:=h.ex;exact⟨Hy h.lt O.size,A,n,c,ac,(O.cell h.lt (λh=>h)).trans J,aR.on (Fr.ext O)⟩
 ):p:=h
theorem Az{p:Prop}(h:p:=by
 simp only[D.aO,D.rep];constructor
 .rintro⟨x,y,rfl,rfl,h⟩;exact⟨y,rfl,h⟩
 .rintro⟨y,rfl,h⟩;exact⟨_,y,rfl,rfl,h⟩
 ):p:=h
theorem DT{p:Prop}(h:p:=by
 have a8:=ae (show decide (S=T)=true from decide_eq_true (by
  apply List.ext_getElem?
  intro j;by_cases a1:j<k
  .exact ah.o j a1
  .rw[List.getElem?_eq_none (aC bL.o),List.getElem?_eq_none (aC P.o)]))
 go_wp2;go_ret;exact⟨ret_bool (by rw[a8.o]),O⟩
 ):p:=h
theorem vH{p:Prop}(h:p:=by
 go_wp2;go_roundw
 case rel=>exact⟨k+1,ad,by go_num,bl.o⟩
 case measure=>exact aF
 ):p:=h
theorem DU{p:Prop}(h:p:=by
 unfold ep at h;rw[bw,eS] at h;obtain⟨y,rfl,h⟩:=h;obtain⟨x,bp,rfl,hx,a4⟩:=dj.1 h;obtain⟨A,n,c,rfl,hc,hs⟩:=iS.1 hx;rw[D.bo] at a4;obtain⟨A2,c2,rfl⟩:=eP.1 a4;exact⟨_,A,n,c,_,_,rfl,hx⟩
 ):p:=h
theorem DV{p:Prop}(h:p:=by
 clear hx g hd;go_wp2;go_quiet (fail)
 go_wp2;go_roundw
 case rel=>
  refine⟨k+1,ad,by go_num,λj a1=>?_,dm O _⟩;by_cases m:j<k
  .exact ah.o j m
  .obtain rfl:j=k:=ad;exact aV.o
 case measure=>exact aF
 ):p:=h
theorem DW{p:Prop}(h:p:=by
 rcases h with⟨m,hm,_,ac,J⟩|⟨_,hp⟩
 .by_cases bi:0<m.size
  .obtain⟨l,a,hs⟩:=ac bi;rw[ak] at a;injection a with a;subst a;exact hs
  .rw[J bi] at ak;cases ak
 .rw[hp] at ak;cases ak
 ):p:=h
theorem DX{p:Prop}(h:p:=by
 obtain⟨cj,rfl,ac⟩:=a2.1 h;obtain⟨bp,rfl,J⟩:=a2.1 ac;obtain⟨aJ,rfl,aR⟩:=a2.1 J;obtain⟨A,n,c,G,rfl,hc,hs,bv⟩:=aA.1 aR;rw[aM] at bv;subst bv;exact⟨A,n,c,rfl,hc,hs⟩
 ):p:=h
theorem vI{p:Prop}(h:p:=by
 go_wp2;go_ret;exact⟨ret_bool (by rw[a8.o]),O⟩
 ):p:=h
theorem DY{p:Prop}(h:p:=by
 unfold ch;rw[bw,b9];constructor
 .rintro⟨y,rfl,h⟩;rw[eS] at h;obtain⟨bp,rfl,h⟩:=h;rw[aM] at h;subst h;rfl
 .rintro rfl;exact⟨_,rfl,eS.2 ⟨_,rfl,aM.2 rfl⟩⟩
 ):p:=h
theorem DZ{p:Prop}(h:p:=by
 have a8:=r7 r1 cg.1 cg.2 f0 gK c3 rg ro;clear r1 f0 gK c3 rg ro bb cH cd cX cg bT m ak b4 c0 cA bN;go_wp2;go_roundw
 case rel=>exact⟨k+1,A2,c2,ad,by go_num,a8.o⟩
 case measure=>exact aF
 ):p:=h
theorem D0{p:Prop}(h:p:=by
 simp only[Iv,Atom.bytes,Ip,IC];unfold eY;simp only[g,cC,b5,II,if_false,k];rw[if_neg ad,if_neg ad];exact oG (aa _) (by simp) (by simp)
 ):p:=h
theorem AA{p:Prop}(h:p:=by
 have hle:=(Fr.aJ ar).size;clear hV ar;generalize aO.heap.size=c5 at *;exact key c5 V ⟨bg,aS,hle⟩
 ):p:=h
theorem D1{p:Prop}(h:p:=by
 have:b=.sg [41]:=by
  simp[dL] at O;exact O.symm
 subst this;refine⟨λh=>by simp[Atom.jY] at h,λs hs _ c hc=>?_⟩;injection hs with hs;subst hs;simp[Atom.head] at hc;subst hc;decide
 ):p:=h
theorem D2{p:Prop}(h:p:=by
 apply List.ext_getElem?
 intro j;rw[List.getElem?_map,List.getElem?_map];by_cases a1:i=j
 .subst a1;rw[List.getElem?_set_self (List.getElem?_eq_some_iff.1 aA).1,aA];rfl
 .rw[List.getElem?_set_ne a1]
 ):p:=h
theorem D3{p:Prop}(h:p:=by
 have ac:=e1.size;exact⟨λO=>by
  rcases b5 _ O with h|h
  .exact(I _ h).2.1 rfl
  .omega,λO=>by
  rcases b5 _ O with h|h
  .exact(I _ h).2.2 rfl
  .omega⟩
 ):p:=h
theorem FK{p:Prop}(h:p:=by
 rw[l2];exact(bs.2.2.2.2.1.al λb O=>aA.block b O.2 (mI O.1 a8.2.1.lt)).mono λb O=>⟨by have:=O.1;have:=a8.2.1.lt;omega,by have:=O.2;have:=aA.size;omega⟩
 ):p:=h
theorem vJ{p:Prop}(h:p:=by
 exact j0.bad a8.o (bL.below.trans (bX.below.mono bL.below.size))
 ):p:=h
theorem FL{p:Prop}(h:p:=by
 rw[l2];exact(bs.2.2.2.2.1.al λb O=>aA.block b O.2 (mI O.1 a8.2.1.lt)).mono λb O=>⟨by have:=O.1;omega,by have:=O.2;have:=aA.size;omega⟩
 ):p:=h
theorem vK{p:Prop}(h:p:=by
 exact hH.mk' H.o (by rw[bL.o];exact I) O bV.o
 ):p:=h
theorem vL{p:Prop}(h:p:=by
 rw[aM] at aR;subst aR;exact⟨A,n,c,rfl,hc,hs⟩
 ):p:=h
theorem D4{p:Prop}(h:p:=by
 have aV:=ai bQ bh;clear hX bQ bh o1 av;go_wp2_with(fail);go_roundw
 case rel=>exact⟨k+1,by go_num,ad,aV.1,aV.2⟩
 case measure=>exact aF
 ):p:=h
theorem vM{p:Prop}(h:p:=by
 generalize wr.heap.size=a4;intro a9;exact key a8 a4 j _ a9
 ):p:=h
theorem D5{p:Prop}(h:p:=by
 refine⟨_,_,_,_,_,rfl,?_,bt.drew⟩;rw[bM.o];refine eh.2 ⟨none,0,0,rfl,Hx _,?_⟩;simp only[ak];exact Sl.bH _
 ):p:=h
theorem AB{p:Prop}(h:p:=by
 go_wp2;go_ret;exact⟨ret_int (by rw[a8.o];rfl),IK.alloc _⟩
 ):p:=h
theorem AD{p:Prop}(h:p:=by
 exact⟨_,rfl,aA.2 ⟨A,n,c,[],rfl,hc,hs,aM.2 rfl⟩⟩
 ):p:=h
theorem D6{p:Prop}(h:p:=by
 go_wp2_with(fail);go_roundw
 case rel=>exact⟨k+1,by go_num,ad,by rw[<-bs.o];exact a7.1,a7.2⟩
 case measure=>exact aF
 ):p:=h
theorem D7{p:Prop}(h:p:=by
 intro hm;rcases hm with hm|hm|hm
 .have:=HA.lt;omega
 .have:=(HA.rows.one.lt hm).2;omega
 .have:=(HA.rows.two.lt hm).2;omega
 ):p:=h
theorem D8{p:Prop}(h:p:=by
 simp only[Ii] at O ⊢;rcases O with O|O|O
 .exact .inl O
 .exact .inr (.inl O)
 .exact .inr (.inr (.inr O))
 ):p:=h
theorem vN{p:Prop}(h:p:=by
 have:=ao.2;simpa[pW,p3] using this
 ):p:=h
theorem D9{p:Prop}(h:p:=by
 rw[<-hX];exact⟨N.below.setCell (p:=⟨wr.heap.size,0,none⟩) (Hx _) _,N.blk.aI 0 _,by simpa using N.lt⟩
 ):p:=h
theorem vO{p:Prop}(h:p:=by
 go_wp2;go_ret;exact⟨ret_bool a8.symm,a3.o⟩
 ):p:=h
theorem Ea{p:Prop}(h:p:=by
 unfold fJ;rw[bw];exact b9.2 ⟨_,rfl,aA.2 ⟨none,0,0,[],rfl,Hx _,Sl.bH _,aM.2 rfl⟩⟩
 ):p:=h
theorem Eb{p:Prop}(h:p:=by
 rw[<-hV];exact⟨((IK.alloc _).alloc _).drew,(IL).alloc _,an.fu _ _ _ (by simp),ad,ad,ad⟩
 ):p:=h
theorem Ec{p:Prop}(h:p:=by
 rcases ak with⟨ac,_⟩|⟨ac,_⟩|⟨_,_,ac⟩|⟨ac,_⟩|⟨ac,_⟩|⟨ac,_⟩<;>first|exact ac|omega
 ):p:=h
theorem Ed{p:Prop}(h:p:=by
 go_wp2_with(fail);go_ret;exact⟨false,rfl,⟨λh=>(by cases h),λh=>absurd (by rw[ah.1 h]) aD.o⟩,ax.o⟩
 ):p:=h
theorem x1{p:Prop}(h:p:=by
 clear ay;conv=>arg 2;whnf
 go_wp2
 try refine x _ _ ?_
 unfold pS
 iterate 248 apply Exists.intro
 exact⟨bH.o,rfl⟩
 ):p:=h
theorem tx{p:Prop}(h:p:=by
 go_wp2;go_ret;exact⟨ret_int (by rw[a7.o]),Below.refl _ _⟩
 ):p:=h
theorem x2{p:Prop}(h:p:=by
 rw[D.bo] at a4;obtain⟨A2,cI,c2,rfl,_,_⟩:=aW.1 a4;exact⟨_,_,_,_,_,_,_,_,rfl,a4⟩
 ):p:=h
theorem tz{p:Prop}(h:p:=by
 have:=(List.getElem?_eq_some_iff.1 hm).1;simp at this;omega
 ):p:=h
theorem x3{p:Prop}(h:p:=by
 exact Fr.low (M:=λb=>b=S.heap.size+1+1) ((ac.mono λ_ h=>h.elim).trans az) λk ap=>ad
 ):p:=h
theorem x4{p:Prop}(h:p:=by
 clear hx g hd;go_wp2;go_quiet (fail)
 go_wp2;go_ret;exact⟨ret_bool (by rw[a8.o]),dm O _⟩
 ):p:=h
theorem x5{p:Prop}(h:p:=by
 rcases b5 with b5|b5
 .rw[b5] at O;exact .inl O
 .rw[b5] at O;injection O with O;right;omega
 ):p:=h
theorem x6{p:Prop}(h:p:=by
 obtain⟨bp,rfl,h⟩:=h;rw[a2] at h;obtain⟨aJ,rfl,h⟩:=h;rw[aM] at h;subst h;rfl
 ):p:=h
theorem x7{p:Prop}(h:p:=by
 rw[aM] at bv;subst bv;exact⟨A,n,c,A2,cd,c2,cl,bY,c3,rfl,hc,cf,o,hs,bz,cx⟩
 ):p:=h
theorem EC{p:Prop}(h:p:=by
 rcases hm with hm|hm
 .rcases hp with hp|hp
  .omega
  .have:=(bq b hp).1;omega
 .omega
 ):p:=h
theorem x8{p:Prop}(h:p:=by
 cases j with
 | zero=>simp[nN] at a1;exact⟨rfl,a1.symm⟩
 | succ j=>simp[nN] at a1
 ):p:=h
theorem x9{p:Prop}(h:p:=by
 exact(kX.cons (.cons (.cons (.app (.cons (.nl (l:=[]) λa h=>by simp at h)))))).2 a I
 ):p:=h
theorem ya{p:Prop}(h:p:=by
 simp only[VE.aZ,VE.numOf,VE.bg] at *;go_wp2;go_ret;exact⟨ret_str b2.o,bf.o⟩
 ):p:=h
theorem yb{p:Prop}(h:p:=by
 rintro e ab ⟨rfl,U,hF⟩;exact⟨none,0,0,rfl,Hx _,U,hF,Sl.bH _⟩
 ):p:=h
theorem yc{p:Prop}(h:p:=by
 clear bu b5;go_wp2;go_ret;refine⟨ret_bool ?_,O⟩;rw[a8.o,a.o,cL.o];simp
 ):p:=h
theorem yd{p:Prop}(h:p:=by
 have:=a2.2.2.1
 cases d with
 | zero=>exact this.elim
 | succ di=>exact⟨di,rfl⟩
 ):p:=h
theorem ye{p:Prop}(h:p:=by
 conv=>lhs;rw[<-cS cc]
 simp only[ByteArray.append_assoc,ag];simp
 ):p:=h
theorem yf{p:Prop}(h:p:=by
 have ac:=b2.1;have J:=a7.2;simp only[Ie,Iy,J];exact ac
 ):p:=h
theorem yg{p:Prop}(h:p:=by
 go_wp2;go_ret;exact⟨none,0,rfl,World.ownsRow_nil _ _ _ _,Below.refl _ _⟩
 ):p:=h
theorem yh{p:Prop}(h:p:=by
 simp only[ak.ez,ay.decl,Dy,IB];cases d<;>exact Iff.rfl
 ):p:=h
theorem yi{p:Prop}(h:p:=by
 unfold oH;rw[List.range_succ,Ig,List.filter_append];simp[h]
 ):p:=h
theorem yj{p:Prop}(h:p:=by
 intro x hx;obtain⟨j,a1⟩:=List.getElem?_of_mem hx;simpa using h j x a1
 ):p:=h
theorem yk{p:Prop}(h:p:=by
 exact kK _ _ _ _ _ (by rw[l0];omega) (by rw[l0];omega)
 ):p:=h
theorem yl{p:Prop}(h:p:=by
 clear hm;go_wp2;go_ret;exact⟨ret_int (by rw[a8.o];rfl),aw.alloc _⟩
 ):p:=h
theorem ym{p:Prop}(h:p:=by
 rw[qd,<-List.append_assoc];exact Ii.2 (.inl this)
 ):p:=h
theorem yn{p:Prop}(h:p:=by
 simp only[cR,count_nil,a8,cm,dZ];omega
 ):p:=h
theorem yo{p:Prop}(h:p:=by
 rw[a0 a8.2.2.2.1,Ig,Ig];exact b2.1
 ):p:=h
theorem ld{p:Prop}(h:p:=by
 intro p aN B ct bV ps V T ls N S L aw bc QA cc qc bR a1 av ax bw on bL cg dq cj aS bp wr aZ ck fg eJ gp bH bP b0 c2 bJ ce aF bD b2 Q hQ0 hN K hK;intros
 obtain⟨s,wb,bu,bM,br,sl,GA,gn,gc,MA,mn,mc,FA,fn,fc,M,F,ar⟩:=p;simp only at dq aZ ck fg;obtain⟨aI,aj,af⟩:=bP.1.blk.two;obtain⟨be,am,aH⟩:=bP.2.1.two;obtain⟨d0,aP,aQ⟩:=bP.2.2.two;conv=>arg 2;whnf
 conv at hK=>enter [a,w,1,2];whnf
 exact lg
 ):p:=h
theorem ED{p:Prop}(h:p:=by
 refine m0 ?_
 iterate 4 refine pf ?_
 refine aD rfl (λK hK=>?_);go_simp;refine(jk ⟨s,wb,bu,bM,br,sl,GA,gn,gc,MA,mn,mc,FA,fn,fc,M,F,ar⟩ L a1 av bq ax wr.drew ((bP.1.aj aZ IK.drew).wr bH.1) ((Sl.dh bH.2.2.2.2.1 (bP.1.aj aZ IK.drew).fr).mono λb O=>⟨O.1,λh=>O.2 (.inl h)⟩) ad).mono ?_;rintro e aO ⟨x,cy,cp,cD,rfl,hx,ah,bf,h,he⟩;simp only at h he;have ag:Fr (λb=>b=s) wr aO:=Fr.aJ he;have ab:=bP.2.2.on ag ad;have a8:=iK (bP.1.next aZ h ag) ab hx ah bf ag.size (bP.2.1.on ag Z);refine dA hK (he) ?_;clear hK K;clear ab hx ah bf h he ag aI aj af be am aH d0 aP aQ;refine au rfl (λK hK=>?_);go_simp
 first
  | rw[j.2,show IntKind.i64.wrap ((i:Nat):Int)=((i:Nat):Int) from IntWalk.i64_in _ ad]
  | rw[j.2]
 refine(ce.2.2 L ad i 3 a1 (T++decls ls) av bq ax bc ps QA cc qc bR aO ad ad (a8.1.wr bH.1) (Sl.dh bH.2.2.2.2.1 a8.1.fr) ad (λk ap=>ce.2.1 k ad) (Sl.dh bH.2.2.1 a8.1.fr) bp).mono ?_;rintro e aT ⟨P,aY,m,aG,bX,rfl,R,a6,b6,al,t⟩;have u:¬(S.heap.size=s\/S.heap.size=wb):=ad;have l:=a8.2.1.on t u;have ba:=a8.2.2.2.2.2.2.on t (λh=>by rcases h with h|h<;>(simp only at h;omega));have dl:aY<=L:=R.le;have bs:=iK (a8.1.E4 al t) l R a6 b6 t ba;clear R a6 b6 al t ba;obtain⟨d0,aP,aQ⟩:=l.two;clear l;refine dW hK ?_;clear hK K;refine au rfl (λK hK=>?_);go_simp;refine dW hK ?_;clear hK K;refine pf ?_;refine au rfl (λK hK=>?_);go_simp;refine dW hK ?_;clear hK K;refine pf ?_;refine au rfl (λK hK=>?_);go_simp;refine dW hK ?_;clear hK K;refine aB ?_;generalize hX:World.setCell _ _ _=X;have aA:Fr (λb=>b=S.heap.size) aT X:=hX▸((((((Fr.refl (λb=>b=S.heap.size) aT).setCell (.inl rfl) _).setCell (.inl rfl) _).setCell (.inl rfl) _).setCell (.inl rfl) _).setCell (.inl rfl) _).setCell (.inl rfl) _;exact yp
 ):p:=h
theorem yq{p:Prop}(h:p:=by
 rintro e aO ⟨rfl,ar⟩;refine dA hK (ar) ?_;clear hK K;refine a9 (v:=?_) rfl (by rfl) (λV=>?_) ?_;rotate_left
 .go_simp;exact dQ
 try simp only[PU]
 refine a9 (v:=?_) rfl (by rfl) (λV=>?_) ?_;rotate_left
 .go_simp;exact dQ
 try simp only[PU]
 exact yr
 ):p:=h
theorem ys{p:Prop}(h:p:=by
 have ay:=bF aw cy (ce.1.on aw) (ce.2.dh (Fr.ext aw) aw.size);have cE:=aw.size;obtain⟨aI,aj,af⟩:=aS.two;clear ba aw aS cy ce;refine eB (λ_=>False) [(0,0),(1,0),(2,1),(3,3),(4,2),(5,3)] ?_
 iterate 2 refine ph ?_
 refine aD rfl (λK hK=>?_);go_simp;refine(mnew u W.drew ⟨GA,gn,gc,MA,mn,mc,PA,pn,pc⟩ bv.o (ay.2.2.1.on (Fr.refl _ W).drew)).mono ?_;rintro e aO ⟨⟨bE,bM,br,TA,tn,tc,HA,bA,hc⟩,rfl,P,ag⟩;refine dA hK (ag) ?_;clear hK K;refine pf ?_;refine au rfl (λK hK=>?_);go_simp;generalize hV:World.alloc _ _=V;have e1:Ext W V:=hV▸(Fr.aJ ag).alloc _;have e2:=bm hV;have bK:=aU hV;have s1:W.heap.size<=aO.heap.size:=ag.size;have h0:r6 W V ⟨GA,gn,gc,MA,mn,mc,PA,pn,pc⟩ u aO.heap.size ⟨bE,bM,br,TA,tn,tc,HA,bA,hc⟩ none 0 0 [] (dO u) []:=
  ⟨e1,s1,bK,⟨⟨rfl,.inl ⟨rfl,rfl⟩⟩,rfl⟩,rfl,λb O=>(List.not_mem_nil O).elim,(P.al λb O=>e2.block b (O.resolve_left λh=>h).2 λh=>h).mono λb O=>by
   have hd:W.drew.heap.size=W.heap.size:=rfl;have ac:=bK.lt;have:=O.resolve_left λh=>h;exact⟨ad,ad,ad,List.not_mem_nil⟩⟩
 refine dW hK ?_;clear hK K;refine pf ?_;refine aB ?_;have bH:=ae h0;have cg:=bK.lt;clear hV e1 e2 bK h0 P ag aI aj af;generalize aM:aO.heap.size=g at *;clear aM;go_wp2_with(fail);exact yt
 ):p:=h
theorem yu{p:Prop}(h:p:=by
 have bh:=bP.2.2.lt;have I:∀b,wr.heap.size<=b->¬(b=s\/b=wb):=λb O h=>ad;have aJ:S.heap.size<=aO.heap.size:=by have:=a8.2.2.2.2.2.1;omega
 have bd:Sl X (fresh S X) cy cp (x.args.map a7):=(a8.2.2.2.2.1.al λb O=>(aA.block b (mI O.2 bs.2.2.2.2.2.1.size) (by have:=O.1;have:wr.drew.heap.size=wr.heap.size:=rfl;omega)).trans (bs.2.2.2.2.2.1.block b O.2 (I b O.1))).mono λb O=>⟨by have:=O.1;have:wr.drew.heap.size=wr.heap.size:=rfl;omega,by have:=O.2;have:=bs.2.2.2.2.2.1.size;have:=aA.size;omega⟩
 have a3:Sl X (fresh S X) m aG (cL (.ez P)):=by
  exact FL
 have bb:Sl X (λb=>S.heap.size<b/\b<X.heap.size) cy cp (x.args.map a7):=(a8.2.2.2.2.1.al λb O=>(aA.block b (mI O.2 bs.2.2.2.2.2.1.size) (by have:=O.1;have:wr.drew.heap.size=wr.heap.size:=rfl;omega)).trans (bs.2.2.2.2.2.1.block b O.2 (I b O.1))).mono λb O=>⟨by have:=O.1;have:wr.drew.heap.size=wr.heap.size:=rfl;omega,by have:=O.2;have:=bs.2.2.2.2.2.1.size;have:=aA.size;omega⟩
 have ao:Sl X (λb=>S.heap.size<b/\b<X.heap.size) m aG (cL (.ez P)):=by
  exact FK
 have az:=ai bb ao;clear bb ao;have H:=bs.1.fresh bH.1 aA λb O=>ad;have bi:=bs.2.2.2.2.2.2.on aA ad;have aV:=cK H bQ bi bd a3;clear hX d0 aP aQ aA bQ H bi bd a3;exact yv
 ):p:=h
theorem tA{p:Prop}(h:p:=by
 go_enter func98,ntmps98;go_upto_region 8 with(fail);generalize ba:World.alloc _ _=W;have aw:=hJ ba;have bC:=fA ba;have bq:=fB ba;have bH:IS (xY w W g A n c T k deep (qJ 0 ⟨#[]⟩ ⟨#[]⟩)):=ae ⟨H.aj aw,aw.mono λ_ h=>h.elim,bC,bq⟩;clear ba aw bC bq;go_wp2_with(fail);refine(show Calls prog 62 #[.pointer (some ⟨g,0,none⟩),.string ⟨#[118,97,114]⟩] W _ from cp [118,97,114] g A n c T k deep W bH.ps false (by first|exact bG.1|exact eO bG.1 (by decide)) (λh=>by first|omega|cases h)).mono ?_;rintro e aO ⟨rfl,U,hF⟩;have H1:=ae (bH.on cg (show bu aO g A n c T (k) deep from by simpa using U) hF);clear U hF;clear bH;go_wp2_with(fail);exact tB
 ):p:=h
theorem yw{p:Prop}(h:p:=by
 refine sU (λb=>b=S.heap.size+1) [14] (.free 0 (.free 1 (.free 2 (.free 6 (.free 7 (.free 8 (.held 9 (.pick [3,10,13] (λi=>bif i == 3 then .held 4 (.free 5 (.pick [10,13] (λi=>bif i == 10 then .free 11 (.free 12 (.pick [13] (λ_=>.pick [14] (λ_=>.stop)))) else .pick [10] (λ_=>.free 11 (.free 12 (.pick [14] (λ_=>.stop))))))) else bif i == 10 then .free 11 (.pick [3,13] (λi=>bif i == 3 then .held 4 (.free 5 (.free 12 (.pick [13] (λ_=>.pick [14] (λ_=>.stop))))) else .pick [3] (λ_=>.held 4 (.free 5 (.free 12 (.pick [14] (λ_=>.stop))))))) else .pick [3,10] (λi=>bif i == 3 then .held 4 (.free 5 (.pick [10] (λ_=>.free 11 (.free 12 (.pick [14] (λ_=>.stop)))))) else .free 11 (.pick [3] (λ_=>.held 4 (.free 5 (.free 12 (.pick [14] (λ_=>.stop)))))))))))))))) ?_
 iterate 6 refine tf ?_
 refine rL ?_;clear aI aj af;exact yy
 ):p:=h
theorem yz{p:Prop}(h:p:=by
 rintro e b4 ⟨⟨a4,cu,aW,aX,m,S,bc,bA,aZ⟩,rfl,cc,aG⟩;have cI:=ae cc;have cp:=(ay.2.2.2.2.1.aj bh.o).aj aG;have a8:=ai cp ((ay.1.trans bh.o).trans aG);clear cc aG be am aH d0 aP aQ;obtain⟨bD,aK,a9⟩:=cp.two;clear cp;go_wp2_with(fail);generalize hX:World.setCell _ _ _=Z;exact yA
 ):p:=h
theorem qW{p:Prop}(h:p:=by
 refine au rfl (λK hK=>?_);go_simp;refine dW hK ?_;clear hK K;refine pf ?_;refine au rfl (λK hK=>?_);go_simp;refine dW hK ?_;clear hK K;exact qX
 ):p:=h
theorem yB{p:Prop}(h:p:=by
 obtain⟨k,q,D,s,L,F,rfl,ap,bj⟩:=hrel;have cc:=BU bv.ok (l.take k) 0 (dO u) (C2 bv.ok);have z:=Ck (u:=u) (l.take k) (dO u);rw[List.length_take] at cc z;have T:s<=100000:=by have:=bj.len;omega
 have aE:∀t,l[k]?=some t->fL u (dO u) (l.take (k+1))=(bs u (fL u (dO u) (l.take k)) t).1/\dC u (dO u) (l.take (k+1))=dC u (dO u) (l.take k)++if (bs u (fL u (dO u) (l.take k)) t).2 then [t] else []:=λt ht=>by
  rw[a0 ht,kp,je];exact⟨rfl,by simp[dC]⟩
 have j:k=n->l.take k=l:=λh=>Ih (aC ay.2.2.2.1);have a8:=bF bj cc aE j;clear cc z aE j;exact yC
 ):p:=h
theorem lh{p:Prop}(h:p:=by
 refine dW hK ?_;clear hK K;refine pf ?_;refine au rfl (λK hK=>?_);go_simp;refine dW hK ?_;clear hK K;refine aB ?_;exact lj
 ):p:=h
theorem fO{p:Prop}(h:p:=by
 refine au rfl (λK hK=>?_);go_simp;refine dW hK ?_;clear hK K;refine aB ?_;exact fP
 ):p:=h
theorem yD{p:Prop}(h:p:=by
 go_wp2_with(fail);refine(show Calls prog 97 #[.pointer (some ⟨g,0,none⟩),.string ⟨#[40]⟩] w _ from jE [40] g A n c T k deep w H.o bG.1 ad).mono ?_;rintro e aO ⟨rfl,U,hF⟩;have H1:=ai U hF;clear U hF;go_wp2_with(fail);refine(show Calls prog 62 #[.pointer (some ⟨g,0,none⟩),.string ⟨#[41]⟩] aO _ from cp [41] g A n c T (k+1) deep aO H1.1 false bG.2.1 (λh=>by cases h)).mono ?_;rintro e aT ⟨rfl,U,hF⟩;have bi:=ai (show bu aT g A n c T (k+1) deep from by simpa using U) (H1.2.trans hF);clear U hF H1;go_wp2_with(fail);generalize hN:r.length=N at *;exact yE
 ):p:=h
theorem om{p:Prop}(h:p:=by
 obtain⟨aE,b0,L,e,bG,hs⟩:=aW.1 aY;simp only[List.cons.injEq,Value.int.injEq,Value.string.injEq,Value.slice.injEq,and_true,true_and] at e;obtain⟨rfl,rfl,rfl,rfl,rfl,rfl⟩:=e;exact oo
 ):p:=h
theorem yF{p:Prop}(h:p:=by
 have bq:=a8.2.2.2.2;have y:=a8.2.2.1.cU I.size λb O hp=>I.block b O λhm=>by
  exact EC
 have Z:bu Y g A n c T (k+1+3*j+2) deep:=cq.1.on bj λb O=>ad;have bY:=ae (And.intro Z (And.intro (Fr.mono (M':=λb=>b=g\/w.heap.size<=b) (Fr.trans (a8.2.1.mono λ_ h=>.inl h) (I.mono λb O=>O)) λb O=>by
  rcases O with O|O
  .exact .inl O
  .exact .inr ad) (And.intro y bk)))
 obtain⟨b1,ar,av⟩:=bk.two;exact yG
 ):p:=h
theorem tC{p:Prop}(h:p:=by
 have d0:=Z 0 _ rfl;have d1:=Z 1 _ rfl;have d2:=Z 2 _ rfl;have d3:=Z 3 _ rfl;have d4:=Z 4 _ rfl;have d5:=Z 5 _ rfl;have d6:=Z 6 _ rfl;have d7:=Z 7 _ rfl;have d8:=Z 8 _ rfl;have d9:=Z 9 _ rfl;have d10:=Z 10 _ rfl;simp only[Ij] at d0;exact tD
 ):p:=h
theorem yH{p:Prop}(h:p:=by
 clear hX d0 aP aQ HA;go_wp2_with(fail);refine(show Calls prog 97 #[.pointer (some ⟨g,0,none⟩),.string ⟨#[59]⟩] X _ from jE [59] g A n c T (k+1+1) deep X aV.ps bG.2.2.2.2 ad).mono ?_;rintro e az ⟨rfl,U,hF⟩;have a2:=ae (aV.on cg U hF);clear U hF aV;obtain⟨d0,aP,aQ⟩:=a2.s.two;obtain⟨bD,aK,a9⟩:=a2.r.two;simp only[qJ] at d0;go_wp2_with(fail);generalize hX:World.setCell _ _ _=V;exact yI
 ):p:=h
theorem gY{p:Prop}(h:p:=by
 refine aq ?_;refine bA rfl (λK hK=>?_) rfl;go_simp;refine dW hK ?_;clear hK K;exact gj
 ):p:=h
theorem tE{p:Prop}(h:p:=by
 have aM:=h.g;have hm:=h.m;have aA:=h.f;have dt:p.globals.length=gn:=by rw[<-aM.1,Ib]
 have lm:p.af.length=mn:=by rw[<-hm.1,Ib]
 have lf:p.funcs.length=fn:=by rw[<-aA.1,Ib]
 exact tF
 ):p:=h
theorem EE{p:Prop}(h:p:=by
 generalize ca:World.setCell _ _ _=Y;obtain⟨bk,bt,bj⟩:=dG (M:=λb=>b=s) [.int .i64 x.aZ,.int .i64 x.numOf,.string x.bg,.slice cy cp cD] (by rfl) a7.o bi.2 (Hx _) ca;obtain⟨bD,aK,a9⟩:=bk.two;exact yJ
 ):p:=h
theorem yK{p:Prop}(h:p:=by
 refine(show Calls prog 62 #[.pointer (some ⟨g,0,none⟩),.string ⟨#[103,111]⟩] aO _ from cp [103,111] g A n c T k deep aO H1.ps false (by first|exact bG.1|exact eO bG.1 (by decide)) (λh=>by first|omega|cases h)).mono ?_;rintro e aT ⟨rfl,U,hF⟩;have bi:=ae (H1.on cg (show bu aT g A n c T (k) deep from by simpa using U) hF);clear U hF;clear H1;go_wp2_with(fail);exact yL
 ):p:=h
theorem yM{p:Prop}(h:p:=by
 rintro e aO ⟨rfl,U,hF⟩;have H1:=aL U (Fr.trans (ay.2.1.mono λ_ h=>h.elim) hF) (ay.2.2.on hF ad);have aa:w.heap.size<aO.heap.size:=H1.2.2.lt;clear U hF;go_upto_region 2 with(fail);generalize hX:World.alloc _ _=X;have aw:=bm hX;have cy:=aU hX;have aV:=bF (H1.1.aj aw) (H1.2.1.trans (aw.mono λ_ h=>h.elim)) (H1.2.2.aj aw) cy;clear hX aw cy H1 ay;go_wp2_with(fail);exact yN
 ):p:=h
theorem yO{p:Prop}(h:p:=by
 go_upto_region 1 with(fail);generalize ba:World.alloc _ _=W;have aw:=Gx ba;have bH:=FG ba;have bJ:=FH ba;have aY:=FI ba;have cy:=FJ ba;have ay:=r7 aw bH bJ aY cy (ce.1.on aw) (ce.2.1.on aw) (ce.2.2.on aw);obtain⟨aI,aj,af⟩:=bH.two;obtain⟨be,am,aH⟩:=bJ.two;obtain⟨d0,aP,aQ⟩:=aY.two;clear ba aw bH bJ aY cy ce;go_wp2_with(fail);exact yP
 ):p:=h
theorem yQ{p:Prop}(h:p:=by
 obtain⟨j,D,L,rfl,a1,U,hF,bS⟩:=hrel;obtain⟨t,ht⟩:∃t,r[j]?=some t:=⟨_,List.getElem?_eq_getElem ad⟩
 obtain⟨cR,f,G⟩:=U.blk.two;have gp:=hF.size;have cw:g<wr.heap.size:=U.blk.lt;have bq:∀b,(Value.slice D j L).ownBlock=some b->w.heap.size<=b/\b<wr.heap.size:=λb O=>bS.lt O;have a8:=cK U hF bS ht bq;exact yR
 ):p:=h
theorem yS{p:Prop}(h:p:=by
 refine sU (λ_=>False) [6,11] (.free 0 (.free 1 (.free 2 (.held 3 (.free 4 (.held 5 (.pick [6,10] (λi=>bif i == 6 then .free 7 (.free 8 (.free 9 (.pick [10] (λ_=>.pick [11] (λ_=>.free 12 (.stop)))))) else .pick [6] (λ_=>.free 7 (.free 8 (.free 9 (.pick [11] (λ_=>.free 12 (.stop)))))))))))))) ?_
 iterate 3 refine tf ?_
 refine th ?_;refine tf ?_;refine th ?_;exact yT
 ):p:=h
theorem yU{p:Prop}(h:p:=by
 go_upto_region 1 with(fail);generalize ba:World.alloc _ _=W;have aw:=bm ba;have aS:an W w.heap.size 128 #[.int .i64 0,.int .i64 0,.string ⟨#[]⟩,.slice none 0 0]:=ba▸an.fu _ _ _ rfl;have ay:=bF (H.1.aj aw) (H.2.aj aw) (aw.mono (M':=λb=>b=s) λ_ h=>h.elim) aS;obtain⟨aI,aj,af⟩:=ay.1.blk.two;clear ba aw aS H;exact yV
 ):p:=h
theorem tG{p:Prop}(h:p:=by
 obtain⟨cv,dc,cR,rfl,bX,cu⟩:=aW.1 P;have c0:=Z 0 _ rfl;have c1:=Z 1 _ rfl;have c2:=Z 2 _ rfl;have c3:=Z 3 _ rfl;simp only[Ij] at c0;have aX:b<wr.heap.size:=O;exact tH
 ):p:=h
theorem oq{p:Prop}(h:p:=by
 try refine hN _ _ ?_
 unfold la;refine⟨av,bq,ax,bw,on,bL,?_⟩
 iterate 240 apply Exists.intro
 refine⟨?_,rfl⟩;exact ot
 ):p:=h
theorem yW{p:Prop}(h:p:=by
 try simp only[PU]
 refine c4 rfl (by rfl) ?_
 try simp only[PU]
 refine c4 rfl (by rfl) ?_
 try simp only[PU]
 refine c4 rfl (by rfl) ?_
 try simp only[PU]
 refine hy rfl (by rfl) ?_
 try simp only[PU]
 refine c4 rfl (by rfl) ?_
 try simp only[PU]
 refine hy rfl (by rfl) ?_
 try simp only[PU]
 exact yX
 ):p:=h
theorem yY{p:Prop}(h:p:=by
 generalize hV:World.alloc _ _=V;have T:=bm hV;have bh:=ae (bf.trans T);have G:=ae (a7.aj T);have hC:=aU hV;have bP:=ae hC;have gH:=ae (cq.on (Fr.ext T));have dw:=ae (bB.on (Fr.ext T));clear hV aI aj af c0 c1 c2 aX bf a7 T cq bB;obtain⟨aI,aj,af⟩:=hC.two;clear hC;exact yZ
 ):p:=h
theorem jq{p:Prop}(h:p:=by
 obtain⟨GA,gn,gc,MA,mn,mc,PA,pn,pc⟩:=p;obtain⟨bE,bM,br,TA,tn,tc,HA,hn,hc⟩:=q;exact jr
 ):p:=h
theorem y0{p:Prop}(h:p:=by
 rintro e aO ⟨⟨eo,en,es,EA,em,ec,QA,qm,qc,db,j,cW,KA,c5,kc⟩,rfl,bC,ag⟩;have H:=ai bC ag;clear aI aj af be am aH bC ag;dsimp only[IV.val];go_upto_region 2 with(fail);generalize hV:World.alloc _ _=V;have r:=bm hV;have G:=aU hV;have bg:Ext W V:=H.2.trans r;exact y1
 ):p:=h
theorem tI{p:Prop}(h:p:=by
 unfold ep at h;rw[bw,eS] at h;obtain⟨y,rfl,h⟩:=h;obtain⟨x,bp,rfl,hx,a4⟩:=dj.1 h;unfold fJ at hx;rw[bw,b9] at hx;obtain⟨z,rfl,hx⟩:=hx;exact tJ
 ):p:=h
theorem qY{p:Prop}(h:p:=by
 have cM:gn<=16:=by have:=hp.pe;omega
 have cg:mn<=12:=by have:=hp.xm;omega
 have dG:fn<=16:=by have:=hp.C5;omega
 exact qZ
 ):p:=h
theorem y2{p:Prop}(h:p:=by
 obtain⟨a6,aA,bS⟩:=h.own hX;obtain⟨GA,gn,gc,MA,mn,mc,FA,fn,fc,aS,cm,bZ,cC,b5⟩:=h.blk;refine⟨⟨⟨GA,gn,gc,MA,mn,mc,FA,fn,fc,?_,cm,bZ,cC.cz a6,b5.cz a6⟩,⟨h.base.1,Ir h.base.2 a6.fr.size⟩,⟨h.names.1,h.names.2.cz a6⟩,bS⟩,a6⟩;exact y3
 ):p:=h
theorem y4{p:Prop}(h:p:=by
 have aU:(0:Int)<(d:Int):=ad;obtain⟨i,a2⟩:∃i,d=i+1:=⟨d - 1,ad⟩
 have aL:(d:Int) - 1=((i:Nat):Int):=ad;have bv:i<=1:=ad;have j:=ai a2 aL;clear a2 aL;have gM:¬wb=s:=ad;have Z:¬aN=s:=ad;exact y5
 ):p:=h
theorem tK{p:Prop}(h:p:=by
 have U:cA.length=fs.length*4:=by rw[D.jd _ _ h.fr,D.jh (z:=4) (λd hd=>by obtain⟨x,_,rfl⟩:=Iz.1 hd;rfl),Ib]
 exact tL
 ):p:=h
theorem y6{p:Prop}(h:p:=by
 have aM:S.grownBy ab (Value.slice A n c).ownBlock:=⟨cC.os,cC.tape,cC.output,by have:=cC.size;simp at this;omega,λk ap aZ=>(cC.block k (by simp;omega) aZ).trans (Below.heap_alloc S _ k ap)⟩
 obtain⟨aE,L,rfl,hc,_⟩:=bI bZ;exact y7
 ):p:=h
theorem tM{p:Prop}(h:p:=by
 refine dS ?_;refine aq ?_;refine bA rfl (λK hK=>?_) rfl;go_simp;generalize hV:World.alloc _ _=V;have aS:=aU hV;have bg:=bm hV;clear hV;exact tN
 ):p:=h
theorem y8{p:Prop}(h:p:=by
 have d0:=(f.cell (p:=⟨b,o,none⟩) O).trans e0;have d1:=(f.cell (p:=⟨b,o+1,none⟩) O).trans e1;have d2:=(f.cell (p:=⟨b,o+2,none⟩) O).trans e2;have d3:=(f.cell (p:=⟨b,o+3,none⟩) O).trans e3;exact y9
 ):p:=h
theorem za{p:Prop}(h:p:=by
 go_wp2;refine eB (λ_=>False) [(0,3),(1,3),(2,3),(3,3),(4,0),(8,3),(9,0),(10,3),(11,3),(14,3),(5,1),(6,3),(7,3),(12,2),(13,3),(15,3),(16,3),(17,3)] ?_
 iterate 2 refine pf ?_
 refine a9 (v:=?_) rfl (by rfl) (λV=>?_) ?_;rotate_left
 .go_simp;exact dQ
 try simp only[PU]
 refine pf ?_;refine ph ?_;refine pf ?_;refine ph ?_;refine pf ?_;refine a9 (v:=?_) rfl (by rfl) (λV=>?_) ?_;rotate_left
 .go_simp;exact dQ
 try simp only[PU]
 refine pf ?_;refine aD rfl (λK hK=>?_);go_simp;refine(aV.o _ _ _ _ _ _ _ (D.on bq.o (Fr.ext IK.drew)) f.o).mono ?_;rintro e aO ⟨rfl,ar⟩;refine dA hK (ar) ?_;clear hK K;refine a9 (v:=?_) rfl (by rfl) (λV=>?_) ?_;rotate_left
 .go_simp;exact dQ
 try simp only[PU]
 refine a9 (v:=?_) rfl (by rfl) (λV=>?_) ?_;rotate_left
 .go_simp;exact dQ
 try simp only[PU]
 refine au rfl (λK hK=>?_);go_simp;rw[q.o];refine((show gU th from aQ.th) (t+1) A2 cd c2 _ L.o (aa.on (Fr.ext (Fr.aJ ar))) H.o).mono ?_;rintro e aT ⟨rfl,bx⟩;refine dW hK ?_;clear hK K;refine a9 (v:=?_) rfl (by rfl) (λV=>?_) ?_;rotate_left
 .go_simp;exact dQ
 try simp only[PU]
 refine a9 (v:=?_) rfl (by rfl) (λV=>?_) ?_;rotate_left
 .go_simp;exact dQ
 try simp only[PU]
 refine a9 (v:=?_) rfl (by rfl) (λV=>?_) ?_;rotate_left
 .go_simp;exact dQ
 try simp only[PU]
 refine pf ?_;refine aB ?_;have bh:=ae ((Fr.aJ ar).trans bx);obtain⟨v0,ax⟩:=Fr.rP bh.o;clear ar bx;exact vC
 ):p:=h
theorem zb{p:Prop}(h:p:=by
 rintro e aO ⟨rfl,ar⟩;refine dA hK (ar) ?_;clear hK K;refine a9 (v:=?_) rfl (by rfl) (λV=>?_) ?_;rotate_left
 .go_simp;exact dQ
 try simp only[PU]
 refine a9 (v:=?_) rfl (by rfl) (λV=>?_) ?_;rotate_left
 .go_simp;exact dQ
 try simp only[PU]
 exact zj
 ):p:=h
theorem zd{p:Prop}(h:p:=by
 refine eB (λb=>b=s) [(0,3),(1,3),(3,3),(4,0),(5,3),(6,3),(7,3),(9,3),(2,1),(8,2),(10,2),(11,3),(12,2),(13,3),(14,2)] ?_
 iterate 3 refine pf ?_
 exact ED
 ):p:=h
theorem ze{p:Prop}(h:p:=by
 go_wp2_with(fail);refine(aV.o rs ce cX rc W ab.o f.o).mono ?_;rintro e aO ⟨rfl,ar⟩;have bh:=ae ar;clear ar;exact vC
 ):p:=h
theorem zf{p:Prop}(h:p:=by
 obtain⟨e0,bn,a0⟩:=aS.two;have a7:=ae aS;clear aI aj af h he aS hx ah bf;go_wp2_with(fail);exact EE
 ):p:=h
theorem zg{p:Prop}(h:p:=by
 go_wp2;go_roundw
 case rel=>exact⟨k+1,ad,by go_num,a3.o,b6.o⟩
 case measure=>exact aF
 ):p:=h
theorem zh{p:Prop}(h:p:=by
 rintro a8 a4 j gm ⟨ao,ag,b5,gJ,a1⟩;obtain⟨bU,aW,bx⟩:=b5.two;exact gY
 ):p:=h
theorem zi{p:Prop}(h:p:=by
 refine ph ?_;refine a9 (v:=?_) rfl (by rfl) (λV=>?_) ?_;rotate_left
 .go_simp;exact dQ
 try simp only[PU]
 refine pf ?_;refine ph ?_;refine aD rfl (λK hK=>?_);go_simp;refine(aV.o cF n1 c1 _ (U.on (Fr.ext IK.drew)) f.o Y.o).mono ?_;exact zb
 ):p:=h
theorem zj{p:Prop}(h:p:=by
 refine pf ?_;refine aB ?_;have bh:=ae (Fr.aJ ar);clear ar;exact vC
 ):p:=h
end Go.Proofs.YtajlmkkidmjgoaaGreatDoor
