/- Part 1 of the proof. No condition of its own. -/
import Derived.BigQuiet
import Derived.Deep.Cut
import Derived.Deep.DrawnRows
import Derived.Deep.Draws
import Derived.Deep.QuietTactic
import Derived.Deep.RegionHeld3
import Derived.Handy
import Derived.IntWalk
import Derived.Laws.CopyOwn
import Derived.Laws.IdiomStrings
import Derived.Laws.StructEq
import Derived.Lib.Bytes
import Derived.Lib.SlBytesRow
import Derived.Maps.AppendAt
import Derived.OrdersHeld
import Derived.RegionTactic
import Derived.StillTail
import Derived.Test.YtnhhdaggkiomoaaGreatRows
import Derived.WalkKit
import Derived.WalkLawsBesides
import Derived.WalkSpells
import Derived.Test.YtnhhdaggkiomoaaGreatQ00
namespace Go.Proofs.YtnhhdaggkiomoaaGreat
open Go.RowKit Go.Proofs.Tryz
set_option maxRecDepth 1000000
set_option maxHeartbeats 25600000
set_option linter.unusedVariables false
theorem KG:type_of% @Nat.le_refl:=@Nat.le_refl
theorem KH:type_of% @Nat.lt_of_lt_of_le:=@Nat.lt_of_lt_of_le
theorem KI:type_of% @List.length_append:=@List.length_append
theorem KJ:type_of% @List.mem_of_getElem?:=@List.mem_of_getElem?
theorem KK:type_of% @List.length_map:=@List.length_map
theorem KL:type_of% @Int.eq_ofNat_of_zero_le:=@Int.eq_ofNat_of_zero_le
theorem KM:type_of% @List.map_cons:=@List.map_cons
theorem KN:type_of% @List.map_append:=@List.map_append
theorem KO:type_of% @List.take_of_length_le:=@List.take_of_length_le
theorem KP:type_of% @List.mem_append:=@List.mem_append
theorem KQ:type_of% @Nat.add_zero:=@Nat.add_zero
theorem KR:type_of% @List.length_singleton:=@List.length_singleton
theorem KS:type_of% @Bool.and_eq_true:=@Bool.and_eq_true
theorem KT:type_of% @List.length_cons:=@List.length_cons
theorem KU:type_of% @List.append_assoc:=@List.append_assoc
theorem KV:type_of% @List.cons_append:=@List.cons_append
theorem KW:type_of% @List.mem_cons:=@List.mem_cons
theorem KX:type_of% @Nat.le_trans:=@Nat.le_trans
theorem KY:type_of% @Nat.zero_add:=@Nat.zero_add
theorem KZ:type_of% @List.length_nil:=@List.length_nil
theorem Lb:type_of% @List.flatMap_cons:=@List.flatMap_cons
theorem Lc:type_of% @Int.toNat_natCast:=@Int.toNat_natCast
theorem Ld:type_of% @Nat.zero_le:=@Nat.zero_le
theorem Le:type_of% @List.map_nil:=@List.map_nil
theorem Lf:type_of% @List.mem_map:=@List.mem_map
theorem Lg:type_of% @List.append_nil:=@List.append_nil
theorem Lh:type_of% @List.nil_append:=@List.nil_append
theorem Li:type_of% @List.mem_singleton:=@List.mem_singleton
theorem Lj:type_of% @Option.some.injEq:=@Option.some.injEq
theorem Lk:type_of% @List.drop_eq_nil_of_le:=@List.drop_eq_nil_of_le
theorem Ll:type_of% @decide_eq_true_eq:=@decide_eq_true_eq
theorem Lm:type_of% @Bool.false_eq_true:=@Bool.false_eq_true
theorem Ln:type_of% @bodyPost_ret:=@bodyPost_ret
theorem Lo{M:Nat→Prop}{w:World}:Fr M w w:=Fr.refl _ _
theorem Lp{w:World}{t:TypeId}{cs:Array Value}:aq (w.alloc (.cells cs t)) w.heap.size t cs:=aq.new _ _ _
theorem ad{p:Prop}(h:p:=by omega):p:=h
theorem aD{p q:Prop}(x:q)(h:q→p:=by intro this;omega):p:=h x
theorem lK{p q r:Prop}(x:q)(y:r)(h:q→r→p:=by intro this this;omega):p:=h x y
theorem aI{A B:Prop}(a:A)(b:B):Lu A∧Lu B:=⟨ae a,ae b⟩
theorem eh{A B C:Prop}(a:A)(b:B)(c:C):Lu A∧Lu B∧Lu C:=⟨ae a,ae b,ae c⟩
theorem iS{A B C D:Prop}(a:A)(b:B)(c:C)(d:D):Lu A∧Lu B∧Lu C∧Lu D:=⟨ae a,ae b,ae c,ae d⟩
theorem CR{A B C D E:Prop}(a:A)(b:B)(c:C)(d:D)(e:E):Lu A∧Lu B∧Lu C∧Lu D∧Lu E:=⟨ae a,ae b,ae c,ae d,ae e⟩
theorem C2{A B C D E F G:Prop}(a:A)(b:B)(c:C)(d:D)(e:E)(f:F)(g:G):Lu A∧Lu B∧Lu C∧Lu D∧Lu E∧Lu F∧Lu G:=⟨ae a,ae b,ae c,ae d,ae e,ae f,ae g⟩
theorem aH{p:Prop}(h:p:=by simp[intOf];omega):p:=h
theorem ag{A B:Prop}(a:A)(b:B):Lu (A∧B):=ae ⟨a,b⟩
theorem aB{A B C:Prop}(a:A)(b:B)(c:C):Lu (A∧B∧C):=ae ⟨a,b,c⟩
theorem bH{A B C D:Prop}(a:A)(b:B)(c:C)(d:D):Lu (A∧B∧C∧D):=ae ⟨a,b,c,d⟩
theorem cI{A B C D E:Prop}(a:A)(b:B)(c:C)(d:D)(e:E):Lu (A∧B∧C∧D∧E):=ae ⟨a,b,c,d,e⟩
theorem cT{A B C D E F:Prop}(a:A)(b:B)(c:C)(d:D)(e:E)(f:F):Lu (A∧B∧C∧D∧E∧F):=ae ⟨a,b,c,d,e,f⟩
theorem hR{A B C D E F G:Prop}(a:A)(b:B)(c:C)(d:D)(e:E)(f:F)(g:G):Lu (A∧B∧C∧D∧E∧F∧G):=ae ⟨a,b,c,d,e,f,g⟩
theorem pe{A B C D E F G H:Prop}(a:A)(b:B)(c:C)(d:D)(e:E)(f:F)(g:G)(h:H):Lu (A∧B∧C∧D∧E∧F∧G∧H):=ae ⟨a,b,c,d,e,f,g,h⟩
theorem xd{A B C D E F G H I:Prop}(a:A)(b:B)(c:C)(d:D)(e:E)(f:F)(g:G)(h:H)(i:I):Lu (A∧B∧C∧D∧E∧F∧G∧H∧I):=ae ⟨a,b,c,d,e,f,g,h,i⟩
theorem zI{A B C D E F G H I J:Prop}(a:A)(b:B)(c:C)(d:D)(e:E)(f:F)(g:G)(h:H)(i:I)(j:J):Lu (A∧B∧C∧D∧E∧F∧G∧H∧I∧J):=ae ⟨a,b,c,d,e,f,g,h,i,j⟩
theorem aU{w W:World}{o1:Obj}(h:w.alloc o1=W):Ext w W:=by subst h;exact Lo.alloc _
theorem iO{w W:World}{o1 fg:Obj}(h:(w.alloc o1).alloc fg=W):Ext w W:=by subst h;exact(Lo.alloc _).alloc _
theorem kq{w W:World}{o1 fg o3:Obj}(h:((w.alloc o1).alloc fg).alloc o3=W):Ext w W:=by subst h;exact((Lo.alloc _).alloc _).alloc _
theorem aG{w W:World}{t:TypeId}{cs:Array Value}(h:w.alloc (.cells cs t)=W):aq W (w.heap.size) t cs:=by subst h;exact Lp
theorem gB{w W:World}{fg:Obj}{t:TypeId}{cs:Array Value}(h:(w.alloc (.cells cs t)).alloc fg=W):aq W (w.heap.size) t cs:=by subst h;exact(Lp).alloc _
theorem fZ{w W:World}{o1:Obj}{t:TypeId}{cs:Array Value}(h:(w.alloc o1).alloc (.cells cs t)=W):aq W (w.heap.size+1) t cs:=by subst h;exact aq.hL _ _ _ (by simp)
theorem jo{w W:World}{fg o3:Obj}{t:TypeId}{cs:Array Value}(h:((w.alloc (.cells cs t)).alloc fg).alloc o3=W):aq W (w.heap.size) t cs:=by subst h;exact((Lp).alloc _).alloc _
theorem g5{w W:World}{o1 o3:Obj}{t:TypeId}{cs:Array Value}(h:((w.alloc o1).alloc (.cells cs t)).alloc o3=W):aq W (w.heap.size+1) t cs:=by subst h;exact(aq.hL _ _ _ (by simp)).alloc _
theorem jq{w W:World}{o1 fg:Obj}{t:TypeId}{cs:Array Value}(h:((w.alloc o1).alloc fg).alloc (.cells cs t)=W):aq W (w.heap.size+2) t cs:=by subst h;exact aq.hL _ _ _ (by simp)
theorem GZ{w W:World}{o1 fg:Obj}{t:TypeId}{cs:Array Value}(h:((w.alloc o1).alloc fg).alloc (.cells cs t)=W):aq W (w.heap.size+1+1) t cs:=by subst h;exact aq.hL _ _ _ (by simp)
theorem gF{w W:World}{o1:Obj}(h:(w.alloc o1).drew=W):Ext w W:=by subst h;exact(Lo.alloc _).drew
theorem kp{w W:World}{t:TypeId}{cs:Array Value}(h:(w.alloc (.cells cs t)).drew=W):aq W (w.heap.size) t cs:=by subst h;exact(Lp).drew
theorem cL{w X:World}{g o:Nat}{v:Value}(h:w.setCell ⟨g,o,none⟩ v=X):Fr (fun b=>b=g) w X:=by subst h;exact(Fr.refl (fun b=>b=g) w).setCell (.inl rfl) _
theorem EW{w X:World}{g o p:Nat}{v u:Value}(h:(w.setCell ⟨g,o,none⟩ v).setCell ⟨g,p,none⟩ u=X):Fr (fun b=>b=g) w X:=by subst h;exact((Fr.refl (fun b=>b=g) w).setCell (.inl rfl) _).setCell (.inl rfl) _
theorem F0{p:Prop}(h:p:=by
 have bV:=ae (bw.o bE);clear bw b4;go_wp2_with(fail);refine(fG s bS TA HA bL bD tn tc hn hc aT (ah.2.2.2.2.2.2.1.on a4.o).at_ aQ.sm).mono ?_;rintro e b6 ⟨aZ,bc,aX,L,bf,a3,xs,F1,F2,bQ,cb,rfl,co,bv,a7⟩;have bT:=aB co bv a7;have cP:=a7.size;clear co bv a7 a8 am aF d0 aL aM;go_upto_region 13 with(fail);generalize hV:World.alloc _ _=V;have bj:=aU hV;have b5:=aG hV;have hOut:dy aS.heap.size V s b6.heap.size ⟨aZ,bL,bc,aX,tn,L,bf,hn,a3⟩ xs F1 F2 bQ cb:=
  ⟨bT.1.ak fun b O=>bj.block b (bT.2.1 b O).2 fun h=>h,b5,fun O=>by have:=(bT.2.1 _ O).2;omega,fun b O=>⟨by have:=(bT.2.1 b O).1;omega,by have:=(bT.2.1 b O).2;have:=bj.size;omega⟩,ad⟩
 have r:Ext W V:=(a4.trans bT.2.2).trans bj;have k:V.ownsRow 0 102 2 (.slice I tn aK) tn (T.flatMap bJ):=g9 (b1 (b1 aa.1 (Fr.ext bT.2.2)) (Fr.ext bj)) (Ld _);have l:∀b∈bq I tn aK,aS.heap.size≤b∧b<aT.heap.size:=fun b O=>aa.1.lt b (by simpa using O);have cc:=bH hOut r k l;obtain⟨e0,a6,aP⟩:=hOut.o.two;clear hV bj b5 hOut r k l;go_upto_region 14 with(fail);generalize hX:World.setCell _ _ _=X;have cr:dy aS.heap.size X {s with table:=T} b6.heap.size ⟨aZ,bL,bc,I,tn,aK,bf,hn,a3⟩ xs F1 (bq I tn aK) bQ cb:=
  cc.1.HU cc.2.2.1 aa.2 (fun b O=>⟨fun hm=>by have:=(bT.2.1 b hm).1;have:=(cc.2.2.2 b O).2;omega,by have:=(cc.2.2.2 b O).2;omega,(cc.2.2.2 b O).1⟩) hX
 have b8:=cL hX;have aY:Ext W X:=Fr.low (M:=fun b=>b=b6.heap.size) (Fr.trans (Fr.mono cc.2.1 fun _ h=>h.elim) b8) fun b O=>ad;obtain⟨c1,dt,i2,cZ,de,c8,dj,c3,cg,aH,J⟩:=cr.top (fs:=fs) (f:=f) bY.2.2.1 bY.2.1 bY.1 bY.2.2.2.1;have au:=aB aH J aY;clear e0 a6 aP;obtain⟨e0,a6,aP⟩:=cr.o.two;clear hX cr b8 aY aH J c3 cg;go_wp2_with(fail);refine(au.1 X Lo).mono ?_;rintro e cN ⟨rfl,cw⟩;have P:=ae (au.2.1 cN cw);have cj:=ae (au.2.2.trans cw);clear e0 a6 aP cw;have cd:=P.c1;have g2:=P.fz;have cS:=P.lt;have c9:=ck.2.2.1;go_upto_region 15 with(fail);generalize hX:World.setCell _ _ _=Y;have bB:r3 aS.heap.size Y {s with table:=T,threads:=s.threads.set t.toNat (fs++[next f])} b6.heap.size ⟨aZ,bL,bc,I,tn,aK,bf,hn,a3⟩ xs F1 (bq I tn aK) bQ cb t fs (next f) c1 dt i2 cZ de c8 dj:=hX▸P.IW bY.2.2.1 (f.pc+1);have ar:=cL hX;have dx:=P.ge;have bn:Ext W Y:=Fr.low (M:=fun b=>b=c1) (Fr.trans (Fr.mono cj.o fun _ h=>h.elim) ar) fun b O=>ad;have bC:=aB bB.oz (ah.2.2.2.2.1.ai bn) (ah.1.trans bn);obtain⟨bl,aA,aO⟩:=bC.2.1.two;obtain⟨e0,a6,aP⟩:=bB.oz.o.two;clear hX bB ar bn cd g2 cS P;go_wp2_with(fail);generalize hX:World.setCell _ _ _=Z;obtain⟨bh,a9,be⟩:=bA (w:=w) [.slice aZ bL bc,.slice I tn aK,.slice bf hn a3,.int .i64 s.fault] (by rfl) bC.2.1 bC.2.2 ad hX;have i:=ag a9 be;clear hX a9 be bl aA aO e0 a6 aP;obtain⟨bl,aA,aO⟩:=bh.two;refine Ln (v:=.tuple #[.agg #[.slice aZ bL bc,.slice I tn aK,.slice bf hn a3,.int .i64 s.fault],.bool true]) (by simp[results,Tryz.results37,go_sem,bl]) rfl ?_;rw[bV.o]
 show cG mf w {bs s t (next f) with table:=T} true _ _
 exact gR (Q:={bs s t (next f) with table:=T}) (q:=⟨aZ,bL,bc,I,tn,aK,bf,hn,a3⟩) bC.1 i.2 (fun b O=>ad) ad i.1 (by rw[dZ bY.2.2.1])
 ):p:=h
theorem ei{p:Prop}(h:p:=by
 rw[if_neg (by first|omega|(simp only[ByteArray.size_append];omega)|(simp;omega))]
 ):p:=h
theorem F3{p:Prop}(h:p:=by
 go_upto_region 31 with(fail);refine eK (fun _=>False) [(0,3),(1,3),(2,3),(3,3),(4,3),(5,0),(6,0),(7,1),(8,2),(9,3),(10,3),(11,3),(12,2)] ?_
 iterate 5 refine pf ?_
 iterate 2 refine ph ?_
 refine q0 ?_;generalize bu:World.drew (World.alloc _ _)=Z;have a9:=gF bu;have bh:=kp bu;have bp:=hz.next (hz.src.cQ a9 fun _ _ h=>h) (a9.mono fun _ h=>h.elim);have e1:=bV.2.2.2.ai a9;have hd:∀b,(Value.slice FA i fc).ownBlock=some b→u≤b∧b<cN.heap.size:=fun b O=>ck.fs.lt O;have iv:=ck.hD;have ch:Sl Z (lv (fun b=>u≤b) Z (.slice FA i fc)) PA pn (ps.map ds):=e1.sl (fun b _ h=>h.elim) (fun b O aR=>⟨ad,O,fun h=>by have:=(hd b h).2;omega⟩);have iu:cN.heap.size≤Z.heap.size:=by have:=bV.2.1.size;have:=a9.size;omega
 have bd:=bH bp bh ch bV.2.2.2.cap.1;have h4:=ae hd;have iw:=ck.blk.lt;clear bu a9 bh bp e1 ch hd a0 ai af f0 dL dN;refine ax rfl (fun K hK=>?_);rw[if_pos (by rfl)];refine e5 G8 (.tmp 177) (.tmp 179) (by rfl) bd.1.fs bd.2.1 (FI bd.2.2.2 bd.2.2.1) (by rfl) (by rfl) (by rfl) ad ad ad ?_;intro hY hT fn bK T c0 cR;have a5:=bd.1.blk.on T (fun O=>by have:=(h4.o _ O).1;omega);have a7:=ag bK T;clear bK T c0 cR;obtain⟨a0,ai,af⟩:=a5.two;clear a5;refine dO hK ?_;clear hK K
 iterate 3 refine pf ?_
 refine ax rfl (fun K hK=>?_);go_simp;refine dO hK ?_;clear hK K;refine aE ?_;generalize bq:World.setCell _ _ _=hg;obtain⟨bc,bm,gt⟩:=h5.o;have f:=bd.1.add a7.1 a7.2 ad (ck.Jb.snoc cf bm gt cl.1);rw[bq] at f;have bY:=ae f;clear bq f a0 ai af gt;go_wp2_with(fail);go_roundw
 case rel=>exact⟨i+1,hY,hT,F++[⟨jx i,ps,.nil⟩],by go_num,ad,bY.o⟩
 case measure=>exact aH
 ):p:=h
theorem F4{p:Prop}(h:p:=by
 go_upto_region 24 with(fail);generalize bw:World.alloc _ _=A;have n:=aU bw;have bt:=aG bw;have r:=cj.trans n;have y:=aB (RO.ai aQ.1 r) (aQ.2.1.trans r) (aQ.2.2.trans r);have Y:=ag bt n;have bq:=n.size;have cz:=cj.size;have T:=ae y.2.2;clear bw n r;obtain⟨a8,am,aF⟩:=(ah.2.2.1.ai y.2.2).two;obtain⟨d0,aL,aM⟩:=(b3.ai y.2.1).two;obtain⟨e0,a6,aP⟩:=y.1.o.two;obtain⟨bp,k,flb,J,H,c0,c1,c2,c3,cp⟩:=y.1.top;obtain⟨f0,dL,dN⟩:=bt.two;clear bt;have dx:=T.size;go_wp2_with(fail);refine(oU P s ⟨bS,bL,bD,TA,tn,tc,HA,hn,hc⟩ z A (cc.2.2.GJ G.o (ah.1.trans T.o)) (fun b O=>KH (G.o b O) (ah.1.trans T.o).size)).mono ?_;rintro e c6 ⟨⟨co,bB,bQ,bf,bs,bn,bR,cF,b9⟩,rfl,bZ,bX⟩;have e4:=bX.size;have c7:=ae bZ;have aW:=ag (ah.2.2.2.1.ai (T.trans bX)) ((ah.1.trans T.o).trans bX);clear bZ bX f0 dL dN d0 aL aM e0 a6 aP c0 c1 c2 c3 H flb J bp k cp a8 am aF;obtain⟨bl,aA,aO⟩:=aW.1.two;go_wp2_with(fail);generalize hX:World.setCell _ _ _=Z;obtain⟨bh,a9,be⟩:=bA (w:=w) [.slice co bB bQ,.slice bf bs bn,.slice bR cF b9,.int .i64 z] (by rfl) aW.1 aW.2 ad hX;have bd:=ag a9 be;clear hX a9 be bl aA aO;obtain⟨bl,aA,aO⟩:=bh.two;refine Ln (v:=.tuple #[.agg #[.slice co bB bQ,.slice bf bs bn,.slice bR cF b9,.int .i64 z],.bool true]) (by simp[results,Tryz.results14,go_sem,bl]) rfl ?_;rw[bV.o];exact ff (B:=A.heap.size) (Q:={s with fault:=z}) c7.o bd.2 (fun b O=>⟨fun hl=>by have:=G.o b hl;omega,ad⟩) (fun b O=>by have:=G.o b O;omega) ad bd.1 rfl
 ):p:=h
theorem F5{p:Prop}(h:p:=by
 rintro r aS ⟨rfl,bU⟩;have aN:Ext w aS:=aw.trans (Fr.of bU);obtain⟨p0,bf,dR⟩:=(c.ai (Fr.of bU)).two;have gM:=(aN.cell (j:=bn+i*3+2) aV (fun h=>h)).trans f2;have bu:=ae aN;clear aw aN c e0 e1 e2 e3 f0 f1 f2 cK cv bU;generalize ev g l e=r at *;obtain⟨v,f⟩:=r;by_cases J:f=0
 case neg=>
  have q5:(f != 0)=true:=by simpa using J
  have cp:=ae (show idx bO.size (v,f)=(0,f) by unfold idx;rw[if_pos J]);clear J;go_wp2
  go_ret2
  exact fX.mk' cp.o (Fr.ext bu.o)
 have q5:(f != 0)=false:=by simpa using J
 by_cases bM:v<0
 ·have di:decide (v<0)=true:=by simpa using bM
  have cp:=ae (show idx bO.size (v,f)=(0,2) by unfold idx;rw[if_neg (by simpa using J),if_pos (.inl bM)]);clear J bM;go_wp2
  go_ret2
  exact fX.mk' cp.o (Fr.ext bu.o)
 have di:decide (v<0)=false:=by simpa using bM
 by_cases u:bO.size≤v
 ·have q7:decide (v≥bO.size)=true:=by simpa using u
  have cp:=ae (show idx bO.size (v,f)=(0,2) by unfold idx;rw[if_neg (by simpa using J),if_pos (.inr u)]);clear J bM u;go_wp2
  go_ret2
  exact fX.mk' cp.o (Fr.ext bu.o)
 ·have q7:decide (v≥bO.size)=false:=by simpa using u
  have cp:=ae (show idx bO.size (v,f)=(v,0) by unfold idx;rw[if_neg (by simpa using J),if_neg ad]);clear J bM u;go_wp2
  go_ret2
  exact fX.mk' cp.o (Fr.ext bu.o)
 ):p:=h
theorem C3{p:Prop}(h:p:=by
 rintro e aT ⟨bb,rfl,U,a3⟩;have bG:=ag U (bq.1.trans a3);clear U a3
 cases bb with
 | true=>
  go_wp2_with(fail);go_ret
  exact⟨(i:Int),rfl,⟨fun _=>⟨_,KJ bY.o,bG.1.1 (by first|rfl|trivial)⟩,fun _=>ad⟩,bG.2⟩
 | false=>
  go_wp2_with(fail);go_roundw
  case rel=>
   refine⟨i+1,by go_num,ad,bG.2,fun j x bi hx=>?_⟩;by_cases az:j<i
   ·exact bq.2 j x az hx
   ·obtain rfl:j=i:=ad;rw[bY.o] at hx;injection hx with hx;subst hx;exact fun h=>by have:=bG.1.2 h;first|cases this|exact this
  case measure=>exact aH
 ):p:=h
theorem xe{p:Prop}(h:p:=by
 go_wp2;go_roundw
 case rel=>exact⟨k+1,ad,by go_num,by rw[←aL.o],bq.trans (l.trans bu.o)⟩
 case measure=>exact aH
 ):p:=h
theorem F6{p:Prop}(h:p:=by
 by_cases cm:hd.depth - 1=0
 ·have E:(hd.depth - 1 == 0)=true:=by simpa using cm
  have z:=ae cm;clear cm;go_wp2
  go_ret2
  refine gE.mk' (A:=some ⟨g,0,none⟩) (c:=c1) (n:=n2) I.o ?_ ?_ bV.o
  ·rw[ca.o,down,if_pos z.o];have bi:(T.set k ⟨hd.owner,hd.depth - 1⟩)[k]?=some ⟨hd.owner,hd.depth - 1⟩:=by rw[List.getElem?_set_self ad]
   obtain⟨ag,i,_,_,_,_,_,am,_⟩:=jD D.o cp bi;injection i with i;injection i with i;subst i;have:=am 0;rw[List.set_set] at this;exact this
  ·exact(O.setCell (by simpa using a2) _).setCell (by simpa using a2) _
 ·have E:(hd.depth - 1 == 0)=false:=by simpa using cm
  have z:=ae cm;clear cm;go_wp2
  go_ret2
  refine gE.mk' (A:=some ⟨g,0,none⟩) (c:=c1) (n:=n2) I.o ?_ ?_ bV.o
  ·rw[ca.o,down,if_neg z.o];exact D.o
  ·exact O.setCell (by simpa using a2) _
 ):p:=h
theorem F7{p:Prop}(h:p:=by
 have bV:=ae (bw.o bE);have aW:=ag (ah.2.2.2.1.ai bC.2.2) (ah.1.trans bC.2.2);have cZ:=bC.2.2.size;obtain⟨bl,aA,aO⟩:=aW.1.two;obtain⟨e0,a6,aP⟩:=bC.2.1.two;go_wp2_with(fail);generalize hX:World.setCell _ _ _=Z;obtain⟨bh,a9,be⟩:=bA (w:=w) [.slice bH cu bc,.slice I tn aK,.slice (some ⟨O,0,none⟩) ct a3,.int .i64 s.fault] (by rfl) aW.1 aW.2 ad hX;have bd:=ag a9 be;clear hX a9 be bl aA aO e0 a6 aP;obtain⟨bl,aA,aO⟩:=bh.two;refine Ln (v:=.tuple #[.agg #[.slice bH cu bc,.slice I tn aK,.slice (some ⟨O,0,none⟩) ct a3,.int .i64 s.fault],.bool true]) (by simp[results,Tryz.results14,go_sem,bl]) rfl ?_;exact A9
 ):p:=h
theorem F8{p:Prop}(h:p:=by
 have aW:=ag (ah.2.2.2.1.ai bC.2.2) (ah.1.trans bC.2.2);have cZ:=bC.2.2.size;obtain⟨bl,aA,aO⟩:=aW.1.two;obtain⟨e0,a6,aP⟩:=bC.2.1.two;go_wp2_with(fail);generalize hX:World.setCell _ _ _=Z;obtain⟨bh,a9,be⟩:=bA (w:=w) [.slice bH cu bc,.slice ab m L,.slice (some ⟨O,0,none⟩) ct a3,.int .i64 s.fault] (by rfl) aW.1 aW.2 ad hX;have bd:=ag a9 be;clear hX a9 be bl aA aO e0 a6 aP;obtain⟨bl,aA,aO⟩:=bh.two;refine Ln (v:=.tuple #[.agg #[.slice bH cu bc,.slice ab m L,.slice (some ⟨O,0,none⟩) ct a3,.int .i64 s.fault],.bool true]) (by simp[results,Tryz.results14,go_sem,bl]) rfl ?_;rw[bV.o];exact ff (B:=V.heap.size) bC.1 bd.2 (fun b O=>⟨fun hl=>by have:=G.o b hl;omega,ad⟩) (fun b O=>by have:=G.o b O;omega) ad bd.1 (by rw[dZ bY.2.1,List.set_set];rfl)
 ):p:=h
theorem xf{p:Prop}(h:p:=by
 have aW:=ae (show decide (S=T)=true from decide_eq_true (by
  apply List.ext_getElem?
  intro j;by_cases bi:j<k
  ·exact aA.o j bi
  ·rw[List.getElem?_eq_none (aD ca.o),List.getElem?_eq_none (aD J.o)]))
 go_wp2;go_ret;exact⟨ret_bool (by rw[aW.o]),O⟩
 ):p:=h
theorem F9{p:Prop}(h:p:=by
 have bo:(0:Int)≤(k:Int):=ad;have cf:(k:Int)<(n:Int):=ad;by_cases hd:x=d
 ·have aQ:=ae (show S[k]?=T[k]? by rw[hx,g,hd]);have u:(x != d)=false:=by simp[hd]
  exact A7
 ·have aW:=ae (show decide (S=T)=false from decide_eq_false (fun h=>by
   subst h;rw[hx] at g;injection g with g;exact hd g))
  have u:(x != d)=true:=by simp[hd]
  exact Bf
 ):p:=h
theorem C4{p:Prop}(h:p:=by
 exact A9
 ):p:=h
theorem Ga{p:Prop}(h:p:=by
 exact A7
 ):p:=h
theorem Gb{p:Prop}(h:p:=by
 have aB:=ag R ct;have b5:=ah.2.2.2.1.on bT.2 (fun h=>by have:=ah.2.2.2.2;omega);have aJ:=ae b5;obtain⟨e0,a6,aP⟩:=b5.two;clear h he R ct b5;go_wp2_with(fail);generalize cr:World.setCell _ _ _=Y;obtain⟨bI,bE,bz⟩:=dU (M:=fun b=>b=s) [.int .i64 1,.int .i64 cU,.string ⟨#[]⟩,.slice none 0 0] (by rfl) aJ.o (ah.2.2.1.trans bT.2) (KG _) cr;obtain⟨bl,aA,aO⟩:=bI.two;refine Ln (v:=.agg #[.int .i64 1,.int .i64 cU,.string ⟨#[]⟩,.slice none 0 0]) (by simp[results,Tryz.results130,go_sem,bl]) rfl ?_;exact⟨.num cU,none,0,0,rfl,(by cases d<;>exact aB.o),KG _,Sl.bO _,bT.1.cQ bz (fun b O h=>by have:=ah.2.2.2.2;omega),bE⟩
 ):p:=h
theorem Gc{p:Prop}(h:p:=by
 clear h;go_enter func64,ntmps64;go_upto_region 1 with(fail);generalize ba:World.alloc _ _=W;have aw:=iO ba;have aR:=gB ba;have cA:=fZ ba;obtain⟨a0,ai,af⟩:=aR.two;obtain⟨bl,aA,aO⟩:=cA.two;have bq:=ag aw cA;clear ba aw aR cA;go_wp2_with(fail);generalize hX:World.setCell _ _ _=X;obtain⟨bo,br,cg⟩:=bA (w:=w) [.int .i64 0,.int .i64 0,.slice none 0 0,.slice none 0 0] (by rfl) bq.2 bq.1 ad hX;have aQ:=ae br;clear hX br cg a0 ai af bl aA aO;exact A8
 ):p:=h
theorem Gd{p:Prop}(h:p:=by
 obtain⟨bl,aA,aO⟩:=aW.1.two;go_wp2_with(fail);generalize hX:World.setCell _ _ _=Z;obtain⟨bh,a9,be⟩:=bA (w:=w) [.slice co bB bQ,.slice bf bs bn,.slice bR cF b9,.int .i64 z] (by rfl) aW.1 aW.2 ad hX;have bd:=ag a9 be;clear hX a9 be bl aA aO;obtain⟨bl,aA,aO⟩:=bh.two;refine Ln (v:=.tuple #[.agg #[.slice co bB bQ,.slice bf bs bn,.slice bR cF b9,.int .i64 z],.bool true]) (by simp[results,Tryz.results14,go_sem,bl]) rfl ?_;rw[bV.o];exact ff (B:=cN.heap.size) (Q:={s with fault:=z}) c7.o bd.2 (fun b O=>⟨fun hl=>by have:=G.o b hl;omega,ad⟩) (fun b O=>by have:=G.o b O;omega) ad bd.1 rfl
 ):p:=h
theorem Ie{p:Prop}(h:p:=by
 exact A8
 ):p:=h
theorem Ge{p:Prop}(h:p:=by
 have c0:=Z 0 cE rfl;have c1:=Z 1 cw rfl;have c2:=Z 2 cG rfl;have c3:=Z 3 b5 rfl;simp only[KQ] at c0;have aX:b<wr.heap.size:=O;clear Z O;obtain⟨B,bG,bc,e,cv,b0⟩:=a1.1 Q;simp only[List.cons.injEq,and_true] at e;obtain⟨rfl,rfl,rfl,rfl⟩:=e;obtain⟨bC,H⟩:=aI bb Q;clear bb Q b0;go_wp2_with(fail);refine(cp.o k z bC.o _ _ _ _ _ _ wr H.o).mono ?_;rintro e aT ⟨rfl,bw⟩;have a4:=ae (bq.trans bw);have cb:=ae (b2.ai bw);clear bw;exact Bg
 ):p:=h
theorem Gf{p:Prop}(h:p:=by
 rintro e aT ⟨bb,rfl,U,a3⟩;have bG:=ag U ((bq.1.trans bC.o).trans a3);clear U a3 bs aX a4 cE N aF
 cases bb with
 | false=>
  go_wp2_with(fail);go_ret;refine⟨false,rfl,⟨fun h=>(by cases h),fun h=>?_⟩,bG.2⟩;have ac:=bY.1;rw[h,bY.2] at ac;injection ac with ac
  exact bG.1.2 ac.symm
 | true=>
  go_wp2_with(fail);go_roundw
  case rel=>
   refine⟨i+1,by go_num,ad,bG.2,fun j bi=>?_⟩;by_cases az:j<i
   ·exact bq.2 j az
   ·obtain rfl:j=i:=ad;rw[bY.1,bY.2,bG.1.1 (by first|rfl|trivial)]
  case measure=>exact aH
 ):p:=h
theorem Gg{p:Prop}(h:p:=by
 go_wp2_with(fail);refine(show Calls prog 150 #[.pointer (some ⟨g,0,none⟩),.string ⟨#[40]⟩] w _ from mL [40] g A n c T k deep w H.o bY.1 ad).mono ?_;rintro e aS ⟨rfl,aZ,hF⟩;have H1:=ag aZ hF;clear aZ hF;go_wp2_with(fail);refine(show Calls prog 122 #[.pointer (some ⟨g,0,none⟩),.string ⟨#[41]⟩] aS _ from dx [41] g A n c T (k+1) deep aS H1.1 true bY.2 (fun _=>ad)).mono ?_;rintro e aT ⟨rfl,aZ,hF⟩;have bG:=ag (show cj aT g A n c T (k+2) deep from by simpa using aZ) (H1.2.trans hF);clear aZ hF H1;go_wp2_with(fail);go_ret;exact⟨rfl,bG.o⟩
 ):p:=h
theorem C5{p:Prop}(h:p:=by
 clear aw T;go_wp2_with(fail);go_ret;refine⟨-1,rfl,⟨fun h=>ad,fun⟨x,hx,hp⟩=>?_⟩,bq.1⟩;obtain⟨j,bi⟩:=List.getElem?_of_mem hx;exact absurd hp (bq.2 j x (by have:=(List.getElem?_eq_some_iff.1 bi).1;have:=b4.1;omega) bi)
 ):p:=h
theorem Gh{p:Prop}(h:p:=by
 refine gE.mk' (A:=some ⟨g,0,none⟩) (c:=c1) (n:=n2) I.o ?_ ?_ bV.o
 ·rw[ca.o];have bi:(T.set k ⟨th+1,hd.depth⟩)[k]?=some ⟨th+1,hd.depth⟩:=by rw[List.getElem?_set_self ad]
  obtain⟨ag,i,_,_,_,_,_,_,s1⟩:=jD l.o cp bi;injection i with i;injection i with i;subst i;have:=s1 (hd.depth+1);rw[List.set_set] at this;exact this
 ·exact(dm.setCell (by simpa using a2) _).setCell (by simpa using a2) _
 ):p:=h
theorem C6{p:Prop}(h:p:=by
 go_wp2_with(fail);refine cp.mono ?_;rintro e aT ⟨r,rfl,a5,a3⟩;have bG:=ag a5 a3;clear a5 a3;go_wp2_with(fail);go_ret;exact⟨decide (r≥0),rfl,⟨fun h=>bG.1.1 (of_decide_eq_true h),fun h=>decide_eq_true (bG.1.2 h)⟩,bG.2⟩
 ):p:=h
theorem Gi{p:Prop}(h:p:=by
 rw[aZ bY.o,qi,←List.append_assoc,KN,bs];have ac:=(bB.dj (ab:=X) b8.size fun b ak hp=>b8.block b ak fun he=>by
  subst he;rcases hp with hp|hp
  ·exact hp.elim
  ·exact cF.1 hp).dj (ab:=cT) ay.size fun b ak hp=>ay.block b ak fun he=>by
  subst he;rcases hp with hp|hp
  ·exact hp.elim
  ·exact cF.2 hp
 show Gr (fun _=>False) W.heap.size 152 3 cT A2 (ln+k+1) c2 _
 simpa using ac
 ):p:=h
theorem tv{p:Prop}(h:p:=by
 go_wp2;go_ret;exact⟨ret_bool (by rw[aW.o]),O⟩
 ):p:=h
theorem Gj{p:Prop}(h:p:=by
 go_wp2_with(fail);generalize cr:World.setCell _ _ _=Y;obtain⟨bI,bE,bz⟩:=dU (M:=fun _=>False) [.slice none 0 0,.slice none 0 0,.slice none 0 0] (by rfl) bm.2.2.1 (w:=w) bm.1 ad cr;obtain⟨bl,aA,aO⟩:=bI.two;refine Ln (v:=.tuple #[.agg #[.slice none 0 0,.slice none 0 0,.slice none 0 0],.int .i64 11]) (by simp[results,Tryz.results33,go_sem,bl]) rfl ?_;exact⟨_,_,_,_,_,_,_,_,_,_,rfl,bE⟩
 ):p:=h
theorem Gk{p:Prop}(h:p:=by
 go_wp2_with(at_builtin;refine dk aT kr rfl (.tmp 28) (.tmp 30) rfl (w.heap.size+1) _ k _ #[_] rfl a6.o rfl rfl (by simp[Value.oneCell']) ad ad b0 ?_;intro aj b6 f ds az;obtain⟨cC,c3,rfl,bA,_⟩:=b2 f);go_roundw
 case rel=>
  refine⟨k+1,ad,by go_num,q.on (Hj a6.o ds fun g a2=>a2),?_⟩;rw[wN M.o,←aL.o];exact f
 case measure=>exact aH
 ):p:=h
theorem Ig{p:Prop}(h:p:=by
 obtain⟨dD,cM,_,aC,_⟩:=h.hF.ex;rw[h.hp] at cM;injection cM with cM;subst cM;rcases an with⟨ac,av,aV,bz,cm⟩|⟨ac,_⟩|⟨ac,_⟩|⟨ac,_,av,aV,bz⟩|⟨ac,_⟩|⟨ac,_⟩
 ·exact⟨av,aV,fun _ a2=>by have:=bz a2;simpa[bx] using this,fun _ a2=>by have:=cm a2;omega⟩
 ·omega
 ·omega
 ·exact⟨av,aV,fun h=>ad,fun h=>ad⟩
 ·omega
 ·omega
 ):p:=h
theorem Gl{p:Prop}(h:p:=by
 by_cases ac:op=16
 ·refine .inl ⟨by simpa using ac,?_,by simp;omega⟩;have:v1≠0:=fun ah=>bx ⟨ac,ah⟩;simpa using this
 ·by_cases av:op=17
  ·refine .inr (.inl ⟨by simpa using ac,by simpa using av,?_⟩);by_cases bM:v1=0
   ·simpa using bM
   ·exact absurd ⟨av,bM⟩ bn
  ·exact .inr (.inr ⟨by simpa using ac,by simpa using av⟩)
 ):p:=h
theorem Gm{p:Prop}(h:p:=by
 rintro a6 bj ⟨rfl,ar⟩;have aM:=ae (F.trans ar);have aY:=ae (aN.trans ar);have b6:=ae (N.ai ar);have bR:=ae (bR.ai ar);clear a0 ai af F aN N;obtain⟨a0,ai,af⟩:=bR.two;clear a0 ai af;obtain⟨a0,ai,af⟩:=bR.two;go_wp2;go_roundw
 case rel=>exact⟨j+1,ad,by go_num,aM.o,aY.o,b6.o⟩
 case measure=>exact aH
 ):p:=h
theorem C7{p:Prop}(h:p:=by
 constructor
 ·rintro⟨y,rfl,h⟩;rw[bm] at h;obtain⟨cG,rfl,h⟩:=h;rw[aP] at h;subst h;rfl
 ·rintro rfl;exact⟨_,rfl,bm.2 ⟨_,rfl,aP.2 rfl⟩⟩
 ):p:=h
theorem tw{p:Prop}(h:p:=by
 go_enter func39,ntmps39;go_wp2_with(fail);go_ret;exact⟨rfl,Lo.alloc _⟩
 ):p:=h
theorem xg{p:Prop}(h:p:=by
 generalize (Value.agg #[.int .i64 x.a9,.int .i64 x.numOf,.string x.bu,.slice cO cG cV])=Y;intro aT;exact key aW Y _ aT
 ):p:=h
theorem xh{p:Prop}(h:p:=by
 go_wp2;go_roundw
 case rel=>exact⟨k+1,ad,by go_num,by rw[←aL.o],bu.o⟩
 case measure=>exact aH
 ):p:=h
theorem Gn{p:Prop}(h:p:=by
 rintro e aE ⟨rfl,he⟩;have a4:=ae (bu.trans he);have q:=ae (l.trans he);have cb:=ae (G.ai he);clear he a0 ai af bu l G;obtain⟨a0,ai,af⟩:=cb.two;go_wp2;refine wp_loop_rounds 1 ?_;rw[rounds_succ];go_wp2;go_roundw
 case rel=>exact⟨k+1,ad,by go_num,a4.o⟩
 case measure=>exact aH
 ):p:=h
theorem xi{p:Prop}(h:p:=by
 rcases O with O|O
 ·rw[O] at hc;exact aX.2.2 hc
 ·rw[O] at hc;injection hc with hc;have:=aX.2.1;omega
 ):p:=h
theorem q9{p:Prop}(h:p:=by
 exact gE.mk' I.o (by rw[ca.o];exact aC) O bV.o
 ):p:=h
theorem xj{p:Prop}(h:p:=by
 refine fin _ fun s hs=>?_;rcases KW.1 hs with rfl|hs
 ·exact⟨c,c⟩
 ·exact ao.2 s hs
 ):p:=h
theorem Gp{p:Prop}(h:p:=by
 exact Bg
 ):p:=h
theorem Gq{p:Prop}(h:p:=by
 exact Bf
 ):p:=h
theorem Gs{p:Prop}(h:p:=by
 go_wp2;go_roundw
 case rel=>
  refine⟨k+1,ad,by go_num,fun j u bi g=>?_,aX.alloc b0 _⟩;by_cases z:j<k
  ·exact aA.o j u z g
  ·obtain rfl:j=k:=ad;rw[aQ.o] at g;injection g with g;rw[←g];exact aP.o
 case measure=>exact aH
 ):p:=h
theorem C8{p:Prop}(h:p:=by
 obtain⟨A,n,c,ac,av,aV⟩:=h.ex;exact⟨KH h.lt O.size,A,n,c,ac,(O.cell h.lt (fun h=>h)).trans av,aV.on (Fr.ext O)⟩
 ):p:=h
theorem C9{p:Prop}(h:p:=by
 simp only[D.aQ,D.rep];constructor
 ·rintro⟨x,y,rfl,rfl,h⟩;exact⟨y,rfl,h⟩
 ·rintro⟨y,rfl,h⟩;exact⟨_,y,rfl,rfl,h⟩
 ):p:=h
theorem xk{p:Prop}(h:p:=by
 go_wp2;go_roundw
 case rel=>exact⟨k+1,ad,by go_num,a9.o⟩
 case measure=>exact aH
 ):p:=h
theorem Gt{p:Prop}(h:p:=by
 unfold gH at h;rw[bK,fp] at h;obtain⟨y,rfl,h⟩:=h;obtain⟨x,cG,rfl,hx,bb⟩:=dE.1 h;obtain⟨A,n,c,rfl,hc,hs⟩:=jv.1 hx;rw[D.bj] at bb;obtain⟨A2,c2,rfl⟩:=fh.1 bb;exact⟨_,A,n,c,_,_,rfl,hx⟩
 ):p:=h
theorem xl{p:Prop}(h:p:=by
 clear bn al;go_wp2;go_ret;refine⟨ret_bool ?_,O⟩;rw[aW.o,i.o,bN.o];simp
 ):p:=h
theorem Gu{p:Prop}(h:p:=by
 rcases h with⟨m,hm,_,ac,av⟩|⟨_,hp⟩
 ·by_cases bt:0<m.size
  ·obtain⟨l,a,hs⟩:=ac bt;rw[an] at a;injection a with a;subst a;exact hs
  ·rw[av bt] at an;cases an
 ·rw[hp] at an;cases an
 ):p:=h
theorem Gv{p:Prop}(h:p:=by
 clear aw T;go_wp2_with(fail);go_ret;refine⟨true,rfl,⟨fun _=>List.ext_getElem? fun j=>?_,fun _=>rfl⟩,bq.1⟩;exact Be
 ):p:=h
theorem tx{p:Prop}(h:p:=by
 go_wp2;go_ret;exact⟨ret_bool (by rw[aW.o]),aX.alloc b0 _⟩
 ):p:=h
theorem Gw{p:Prop}(h:p:=by
 have q1:((n:Int) != (m:Int))=true:=by simp;omega
 have aj:=ae I;clear I;go_wp2_with(fail);go_ret;exact⟨false,rfl,⟨fun h=>(by cases h),fun h=>absurd (by rw[←b4.1,←b4.2.1,h]) aj.o⟩,Lo⟩
 ):p:=h
theorem Gx{p:Prop}(h:p:=by
 obtain⟨cw,rfl,ac⟩:=bm.1 h;obtain⟨cG,rfl,av⟩:=bm.1 ac;obtain⟨b5,rfl,aV⟩:=bm.1 av;obtain⟨A,n,c,cK,rfl,hc,hs,bz⟩:=aN.1 aV;rw[aP] at bz;subst bz;exact⟨A,n,c,rfl,hc,hs⟩
 ):p:=h
theorem Gy{p:Prop}(h:p:=by
 unfold ds;rw[bK,cp];constructor
 ·rintro⟨y,rfl,h⟩;rw[fp] at h;obtain⟨cG,rfl,h⟩:=h;rw[aP] at h;subst h;rfl
 ·rintro rfl;exact⟨_,rfl,fp.2 ⟨_,rfl,aP.2 rfl⟩⟩
 ):p:=h
theorem ra{p:Prop}(h:p:=by
 go_wp2;go_ret;exact⟨ret_int (by rw[aW.o]),O⟩
 ):p:=h
theorem Gz{p:Prop}(h:p:=by
 have aW:=pe r1 cF.1 cF.2 gR gS eX rg ro;clear r1 gR gS eX rg ro bB cH b2 cO cF b8 z ay bC c0 b1 bt;go_wp2;go_roundw
 case rel=>exact⟨k+1,A2,c2,ad,by go_num,aW.o⟩
 case measure=>exact aH
 ):p:=h
theorem Da{p:Prop}(h:p:=by
 have hle:=(Fr.aF ar).size;clear hV ar;generalize aS.heap.size=db at *;exact key db V ⟨bj,aR,hle⟩
 ):p:=h
theorem GB{p:Prop}(h:p:=by
 have:b=.sg [41]:=by
  simp[dX] at O;exact O.symm
 subst this;refine⟨fun h=>by simp[Atom.km] at h,fun s hs _ c hc=>?_⟩;injection hs with hs;subst hs;simp[Atom.head] at hc;subst hc;decide
 ):p:=h
theorem y9{p:Prop}(h:p:=by
 apply List.ext_getElem?
 intro j;rw[List.getElem?_map,List.getElem?_map];by_cases bi:i=j
 ·subst bi;rw[List.getElem?_set_self (List.getElem?_eq_some_iff.1 J).1,J];rfl
 ·rw[List.getElem?_set_ne bi]
 ):p:=h
theorem za{p:Prop}(h:p:=by
 have ac:=e1.size;exact⟨fun O=>by
  rcases al _ O with h|h
  ·exact(aC _ h).2.1 rfl
  ·omega,fun O=>by
  rcases al _ O with h|h
  ·exact(aC _ h).2.2 rfl
  ·omega⟩
 ):p:=h
theorem zb{p:Prop}(h:p:=by
 have q1:(bf == dR)=false:=by simpa using e1
 have b4:=ae e1;clear e1;go_wp2_with(fail);go_ret;exact⟨false,rfl,⟨fun h=>(by cases h),fun h=>absurd (cx.1 h).1 b4.o⟩,ah.1⟩
 ):p:=h
theorem G0{p:Prop}(h:p:=by
 rw[mu];exact(bm.2.2.2.2.1.ak fun b O=>J.block b O.2 (lK O.1 aW.2.1.lt)).mono fun b O=>⟨by have:=O.1;have:=aW.2.1.lt;omega,by have:=O.2;have:=J.size;omega⟩
 ):p:=h
theorem r4{p:Prop}(h:p:=by
 exact ko.bad aW.o (ca.below.trans (aa.below.mono ca.below.size))
 ):p:=h
theorem zd{p:Prop}(h:p:=by
 simp only[Lb,Atom.bytes,KV,Lh];unfold fJ;simp only[g,cU,H,Lm,if_false,k];rw[if_neg ad,if_neg ad];exact ao _
 ):p:=h
theorem r5{p:Prop}(h:p:=by
 have av:=b2.2;simp only[KM,Le,av];exact ac
 ):p:=h
theorem r6{p:Prop}(h:p:=by
 go_wp2;go_ret;exact⟨ret_bool (by rw[aW.o]),Below.refl _ _⟩
 ):p:=h
theorem G1{p:Prop}(h:p:=by
 rw[mu];exact(bm.2.2.2.2.1.ak fun b O=>J.block b O.2 (lK O.1 aW.2.1.lt)).mono fun b O=>⟨by have:=O.1;omega,by have:=O.2;have:=J.size;omega⟩
 ):p:=h
theorem r7{p:Prop}(h:p:=by
 rw[aP] at aV;subst aV;exact⟨A,n,c,rfl,hc,hs⟩
 ):p:=h
theorem ze{p:Prop}(h:p:=by
 obtain⟨len,_,an⟩:=h.ok;rcases an with⟨ac,_⟩|⟨ac,_⟩|⟨_,_,ac⟩|⟨ac,_⟩|⟨ac,_⟩|⟨ac,_⟩<;>first|exact ac|omega
 ):p:=h
theorem r8{p:Prop}(h:p:=by
 generalize wr.heap.size=az;intro ah;exact key aW az j _ ah
 ):p:=h
theorem zf{p:Prop}(h:p:=by
 have n:=ae e1;clear e1;go_wp2_with(fail);go_ret;exact⟨false,rfl,⟨fun h=>(by cases h),fun h=>absurd (cx.1 h).1 (aD n.o)⟩,ah.1⟩
 ):p:=h
theorem zg{p:Prop}(h:p:=by
 refine⟨_,_,_,_,_,rfl,?_,bE.drew⟩;rw[bw.o];refine dT.2 ⟨none,0,0,rfl,KG _,?_⟩;simp only[an];exact Sl.bO _
 ):p:=h
theorem vc{p:Prop}(h:p:=by
 go_wp2;go_ret;exact⟨ret_int (by rw[aW.o];rfl),Lo.alloc _⟩
 ):p:=h
theorem vd{p:Prop}(h:p:=by
 exact⟨_,rfl,aN.2 ⟨A,n,c,[],rfl,hc,hs,aP.2 rfl⟩⟩
 ):p:=h
theorem zh{p:Prop}(h:p:=by
 intro hm;rcases hm with hm|hm|hm
 ·have:=HA.lt;omega
 ·have:=(HA.rows.one.lt hm).2;omega
 ·have:=(HA.rows.two.lt hm).2;omega
 ):p:=h
theorem zi{p:Prop}(h:p:=by
 obtain⟨len,_,an⟩:=i.ok;rcases an with⟨ac,_⟩|⟨ac,_⟩|⟨ac,_⟩|⟨ac,_⟩|⟨ac,_⟩|⟨ac,_⟩<;>omega
 ):p:=h
theorem zj{p:Prop}(h:p:=by
 simp only[KP] at O ⊢;rcases O with O|O|O
 ·exact .inl O
 ·exact .inr (.inl O)
 ·exact .inr (.inr (.inr O))
 ):p:=h
theorem r9{p:Prop}(h:p:=by
 have:=N.2;simpa[qW,q6] using this
 ):p:=h
theorem zk{p:Prop}(h:p:=by
 rw[←hX];exact⟨Q.below.setCell (p:=⟨wr.heap.size,0,none⟩) (KG _) _,Q.blk.aM 0 _,by simpa using Q.lt⟩
 ):p:=h
theorem sa{p:Prop}(h:p:=by
 go_wp2;go_ret;exact⟨ret_bool aW.symm,a4.o⟩
 ):p:=h
theorem G2{p:Prop}(h:p:=by
 have ca:(hd.owner == 0)=true:=by simpa using bn
 clear bn;go_wp2;go_ret;exact⟨ret_bool (by rw[aW.o,bN.o];rfl),O⟩
 ):p:=h
theorem zl{p:Prop}(h:p:=by
 unfold fU;rw[bK];exact cp.2 ⟨_,rfl,aN.2 ⟨none,0,0,[],rfl,KG _,Sl.bO _,aP.2 rfl⟩⟩
 ):p:=h
theorem zm{p:Prop}(h:p:=by
 rw[←hV];exact⟨((Lo.alloc _).alloc _).drew,(Lp).alloc _,aq.hL _ _ _ (by simp),ad,ad,ad⟩
 ):p:=h
theorem zn{p:Prop}(h:p:=by
 go_wp2_with(fail);go_ret;exact⟨false,rfl,⟨fun h=>(by cases h),fun h=>absurd (by rw[aA.1 h]) bv.o⟩,ab.o⟩
 ):p:=h
theorem zo{p:Prop}(h:p:=by
 clear ah;conv=>arg 2;whnf
 go_wp2
 try refine x _ _ ?_
 unfold qS
 iterate 248 apply Exists.intro
 exact⟨a7.o,rfl⟩
 ):p:=h
theorem zp{p:Prop}(h:p:=by
 have bS:L=T:=by rw[←b2.o];unfold fw;rw[J];rfl
 exact gE.mk' I.o (by rw[bS];exact az) dm J
 ):p:=h
theorem ve{p:Prop}(h:p:=by
 go_wp2;go_ret;exact⟨ret_int (by rw[b2.o]),Below.refl _ _⟩
 ):p:=h
theorem zq{p:Prop}(h:p:=by
 rw[D.bj] at bb;obtain⟨A2,bi,c2,rfl,_,_⟩:=a1.1 bb;exact⟨_,_,_,_,_,_,_,_,rfl,bb⟩
 ):p:=h
theorem zr{p:Prop}(h:p:=by
 rcases Nat.eq_zero_or_pos n2 with ac|ac
 ·exact ac
 ·obtain⟨b,o,av,_⟩:=ht.2 ac;rw[h0] at av;cases av
 ):p:=h
theorem zs{p:Prop}(h:p:=by
 generalize (Value.agg (ar.val m8))=Y;generalize (Value.agg (ci.val (dA qV)))=G;intro F;exact key az G Y _ F
 ):p:=h
theorem vf{p:Prop}(h:p:=by
 have:=(List.getElem?_eq_some_iff.1 hm).1;simp at this;omega
 ):p:=h
theorem vg{p:Prop}(h:p:=by
 exact fX.mk' rfl ((Below.refl _ _).alloc (KG _) _)
 ):p:=h
theorem zt{p:Prop}(h:p:=by
 exact Fr.low (M:=fun b=>b=S.heap.size+1+1) ((ac.mono fun _ h=>h.elim).trans az) fun k ap=>ad
 ):p:=h
theorem zu{p:Prop}(h:p:=by
 unfold heldBy;rw[f,show (hd.owner == th+1)=true by simpa using bz,decide_eq_true ⟨hm,aV⟩];rfl
 ):p:=h
theorem zv{p:Prop}(h:p:=by
 rcases H with H|H
 ·rw[H] at O;exact .inl O
 ·rw[H] at O;injection O with O;right;omega
 ):p:=h
theorem zw{p:Prop}(h:p:=by
 go_wp2;go_roundw
 case rel=>exact⟨k+1,cC,c3,ad,by go_num,aW.o⟩
 case measure=>exact aH
 ):p:=h
theorem zx{p:Prop}(h:p:=by
 generalize (Value.agg (ar.val S))=Y;generalize (Value.slice A2 aP c2)=G;intro F;exact key az G Y _ F
 ):p:=h
theorem zy{p:Prop}(h:p:=by
 obtain⟨cG,rfl,h⟩:=h;rw[bm] at h;obtain⟨b5,rfl,h⟩:=h;rw[aP] at h;subst h;rfl
 ):p:=h
theorem zz{p:Prop}(h:p:=by
 cases j with
 | zero=>simp[om] at bi;exact⟨rfl,bi.symm⟩
 | succ j=>simp[om] at bi
 ):p:=h
theorem zA{p:Prop}(h:p:=by
 exact(lh.cons (.cons (.cons (.app (.cons (.nl (l:=[]) fun a h=>by simp at h)))))).2 a bx
 ):p:=h
theorem vh{p:Prop}(h:p:=by
 go_wp2;go_ret;exact⟨rfl,Lo.alloc _⟩
 ):p:=h
theorem zB{p:Prop}(h:p:=by
 simp only[VE.a9,VE.numOf,VE.bu] at *;go_wp2;go_ret;exact⟨ret_str b4.o,bq.o⟩
 ):p:=h
theorem zC{p:Prop}(h:p:=by
 by_cases ah:0≤bt X e∧0≤th
 ·exact ah
 ·rw[pP ah] at J;cases J
 ):p:=h
theorem zD{p:Prop}(h:p:=by
 have:=bd.2.2.1
 cases d with
 | zero=>exact this.elim
 | succ cK=>exact⟨cK,rfl⟩
 ):p:=h
theorem zE{p:Prop}(h:p:=by
 conv=>lhs;rw[←db cq]
 simp only[ByteArray.append_assoc,ah];simp
 ):p:=h
theorem zF{p:Prop}(h:p:=by
 exact wI (q:=⟨bS,bL,bD,TA,tn,tc,HA,hn,hc⟩) cc.2.2 G.o bd.o
 ):p:=h
theorem zG{p:Prop}(h:p:=by
 unfold heldBy;rw[f,show (hd.owner == th+1)=false by simpa using bz];simp
 ):p:=h
theorem zH{p:Prop}(h:p:=by
 go_wp2;go_ret;exact⟨none,0,rfl,World.ownsRow_nil _ _ _ _,Below.refl _ _⟩
 ):p:=h
theorem zJ{p:Prop}(h:p:=by
 simp only[an.eM,aA.decl,FT,Lg];cases d<;>exact Iff.rfl
 ):p:=h
theorem zK{p:Prop}(h:p:=by
 intro x hx;obtain⟨j,bi⟩:=List.getElem?_of_mem hx;simpa using h j x bi
 ):p:=h
theorem zL{p:Prop}(h:p:=by
 exact k0 _ _ _ _ _ (by rw[mr];omega) (by rw[mr];omega)
 ):p:=h
theorem zM{p:Prop}(h:p:=by
 clear hm;go_wp2;go_ret;exact⟨ret_int (by rw[aW.o];rfl),aw.alloc _⟩
 ):p:=h
theorem G3{p:Prop}(h:p:=by
 unfold free;rw[decide_eq_true ⟨hm,h0⟩,f,P,L,Bool.true_and]
 ):p:=h
theorem zN{p:Prop}(h:p:=by
 rw[rm,←List.append_assoc];exact KP.2 (.inl this)
 ):p:=h
theorem zO{p:Prop}(h:p:=by
 simp[go_sem];by_cases h:a=c<;>by_cases av:b=d<;>simp[h,av]
 ):p:=h
theorem zP{p:Prop}(h:p:=by
 simp only[c9,count_nil,bp,cC,eA];omega
 ):p:=h
theorem sb{p:Prop}(h:p:=by
 obtain⟨a8,am,aF⟩:=(ah.2.2.1.ai bj).two;clear hV bj b5 dv ds;have dG:w.heap.size+2<V.heap.size:=ad;go_wp2_with(fail);refine(FB P s t fs f ⟨bS,bL,bD,TA,tn,tc,HA,hn,hc⟩ V (cc.2.2.GJ G.o (ah.1.trans cn.o)) (fun b O=>KH (G.o b O) (ah.1.trans cn.o).size) l.sm dg bY.2.1).mono ?_;rintro e b6 ⟨⟨bH,cu,bc,ab,m,L,b2,ct,a3⟩,O,lb,lc,hx,cK,du,c8,dR,aH,F1,F2,a4,rfl,a7,dy⟩;have bT:=ag a7 dy;have cP:=a7.size;clear a7 dy a8 am aF;dsimp only[SV.val];go_upto_region 5 with(fail);generalize hU:World.alloc _ _=U;have cl:=aU hU;have cX:=aG hU;have bm:=bT.2 U b6.heap.size cl cX (KG _);have de:=bm.mC;have ci:=bm.gl;have cH:=bm.tl;have cE:=bm.hl;simp only at de ci cH cE;subst de;obtain⟨bp,k,flb,J,H,c0,c1,c2,c3,cp⟩:=bm.top;have aT:Ext V U:=bT.1.trans cl;have dQ:=(bm.lo lb (by simp)).1;have bN:=cI bm aT ci cH cE;have ca:t<(ct:Int):=by have:=bY.2.2.2.2;omega
 have dT:((fs.length:Nat):Int)<(lc:Int):=by have:=bm.l.cap;omega
 have dM:fs.length≤lc:=ad;obtain⟨e0,a6,aP⟩:=cX.two;clear hU cl cX bm aT ci cH cE bT;go_upto_region 8 with(fail);generalize hX:World.setCell _ _ _=X;have cr:RO P V.heap.size X {s with threads:=s.threads.set t.toNat (fs++[next f])} t.toNat fs (next f) b6.heap.size ⟨bH,cu,bc,ab,m,L,some ⟨O,0,none⟩,ct,a3⟩ O lb lc hx cK du c8 dR aH F1 F2 a4:=hX▸bN.1.pc (f.pc+1);have b8:=cL hX;have dl:Ext V X:=Fr.low (M:=fun b=>b=lb) (Fr.trans (Fr.mono bN.2.1 fun _ h=>h.elim) b8) fun b O=>ad;have aY:=cn.trans dl;have aQ:=aB cr dl aY;have dI:=dl.size;clear hX b8 e0 a6 aP c0 c1 c2 c3 H flb J bp k cp;obtain⟨bp,k,flb,J,H,c0,c1,c2,c3,cp⟩:=cr.top;obtain⟨a0,ai,af⟩:=(ah.2.1.ai aY).two;obtain⟨a8,am,aF⟩:=(ah.2.2.1.ai aY).two;obtain⟨d0,aL,aM⟩:=(b3.ai dl).two;obtain⟨e0,a6,aP⟩:=cr.o.two;have dP:=(cr.lo b6.heap.size (by simp))
 exact sc
 ):p:=h
theorem sd{p:Prop}(h:p:=by
 have l:=ae h;have bY:=cI ao bK c5 tq ot;have dA:t<(hn:Int):=ad;have cc:=aB hu hs b1;obtain⟨G,cg⟩:=aI aZ cy;clear h ao cH bK c5 tq ot hu hs b1 aZ cy;dsimp only[UV.val,SV.val];go_enter func14,ntmps14;go_upto_region 1 with(fail);generalize ba:World.alloc _ _=W;have aw:=kq ba;have bF:=jo ba;have b7:=g5 ba;have cA:=jq ba;have ah:=cT aw bF b7 cA (cc.1.on aw) (cc.2.1.on aw);have cY:=aw.size;have dr:=cA.lt;obtain⟨a0,ai,af⟩:=bF.two;obtain⟨a8,am,aF⟩:=b7.two;clear ba aw bF b7 cA;go_wp2_with(fail);refine(ux u s t f cq x W ⟨GA,gn,gc,MA,mn,mc,PA,pn,pc⟩ ⟨bS,bL,bD,TA,tn,tc,HA,hn,hc⟩ ⟨l.sm,l.ht,l.hp,l.hx,l.hF.proc,l.pc.1,l.il,l.kl,ah.2.2.2.2.1,ah.2.2.2.2.2⟩).mono ?_;rintro e aS ⟨⟨eo,en,es,EA,em,ec,QA,qm,qc,dh,j,db,KA,dk,kc⟩,rfl,bM,aN⟩;have ds:=ag bM aN;clear a0 ai af a8 am aF bM aN;dsimp only[IV.val];go_upto_region 2 with(fail);generalize hV:World.alloc _ _=V;have b5:=aU hV;have dv:=aG hV;have bj:Ext W V:=ds.2.trans b5;have dm:=bj.size;have ce:=dv.lt;have dK:=ds.2.size;have cn:=ae bj;have dE:=ae (ds.1.on b5);have b3:=ae dv;exact se
 ):p:=h
theorem lG{p:Prop}(h:p:=by
 intro p ck B bP bv ps V T ls N S L aw aZ QA cq qc bx aI au ba bq on b7 cB bX eN aR bK wr bf dC cu b5 m1 a7 bR cg bV bc cc aH bl b4 Q hQ0 hN K hK;intros
 obtain⟨s,wb,sA,bL,bD,sl,GA,gn,gc,MA,mn,mc,FA,fn,fc,M,F,ar⟩:=p;simp only at bX bf dC cu;obtain⟨a0,ai,af⟩:=bR.1.blk.two;obtain⟨a8,am,aF⟩:=bR.2.1.two;obtain⟨d0,aL,aM⟩:=bR.2.2.two;conv=>arg 2;whnf
 conv at hK=>enter [a,w,1,2];whnf
 exact lH
 ):p:=h
theorem G4{p:Prop}(h:p:=by
 refine ow ?_
 iterate 4 refine pf ?_
 refine aJ rfl (fun K hK=>?_);go_simp;refine(jK ⟨s,wb,sA,bL,bD,sl,GA,gn,gc,MA,mn,mc,FA,fn,fc,M,F,ar⟩ L aI au bi ba wr.drew ((bR.1.ai bf Lo.drew).wr a7.1) ((Sl.c4 a7.2.2.2.2.1 (bR.1.ai bf Lo.drew).fr).mono fun b O=>⟨O.1,fun h=>O.2 (.inl h)⟩) ad).mono ?_;rintro e aS ⟨x,cO,cG,cV,rfl,hx,aN,cd,h,he⟩;simp only at h he;have aj:Fr (fun b=>b=s) wr aS:=Fr.aF he;have Z:=bR.2.2.on aj ad;have aW:=hR (bR.1.next bf h aj) Z hx aN cd aj.size (bR.2.1.on aj W);refine dz hK (he) ?_;clear hK K;clear Z hx aN cd h he aj a0 ai af a8 am aF d0 aL aM;refine ax rfl (fun K hK=>?_);go_simp
 first
  | rw[j.2,show IntKind.i64.wrap ((i:Nat):Int)=((i:Nat):Int) from IntWalk.i64_in _ ad]
  | rw[j.2]
 refine(cc.2.2 L ad i 3 aI (T++decls ls) au bi ba aZ ps QA cq qc bx aS ad ad (aW.1.wr a7.1) (Sl.c4 a7.2.2.2.2.1 aW.1.fr) ad (fun k ap=>cc.2.1 k ad) (Sl.c4 a7.2.2.1 aW.1.fr) bK).mono ?_;rintro e aT ⟨R,bu,m,aO,bS,rfl,aC,cK,cn,ak,U⟩;have u:¬(S.heap.size=s∨S.heap.size=wb):=ad;have l:=aW.2.1.on U u;have aP:=aW.2.2.2.2.2.2.on U (fun h=>by rcases h with h|h<;>(simp only at h;omega));have dE:bu≤L:=aC.le;have bm:=hR (aW.1.Ht ak U) l aC cK cn U aP;clear aC cK cn ak U aP;obtain⟨d0,aL,aM⟩:=l.two;clear l;refine dO hK ?_;clear hK K;refine ax rfl (fun K hK=>?_);go_simp;refine dO hK ?_;clear hK K;refine pf ?_;refine ax rfl (fun K hK=>?_);go_simp;refine dO hK ?_;clear hK K;refine pf ?_;refine ax rfl (fun K hK=>?_);go_simp;refine dO hK ?_;clear hK K;refine aE ?_;generalize hX:World.setCell _ _ _=X;have J:Fr (fun b=>b=S.heap.size) aT X:=hX▸((((((Fr.refl (fun b=>b=S.heap.size) aT).setCell (.inl rfl) _).setCell (.inl rfl) _).setCell (.inl rfl) _).setCell (.inl rfl) _).setCell (.inl rfl) _).setCell (.inl rfl) _;exact zQ
 ):p:=h
theorem vi{p:Prop}(h:p:=by
 have aW:=ag (ah.2.2.2.1.ai bC.2.2) (ah.1.trans bC.2.2);have cZ:=bC.2.2.size;obtain⟨bl,aA,aO⟩:=aW.1.two;obtain⟨e0,a6,aP⟩:=bC.2.1.two;go_wp2_with(fail);generalize hX:World.setCell _ _ _=Z;obtain⟨bh,a9,be⟩:=bA (w:=w) [.slice bH cu bc,.slice ab m L,.slice (some ⟨O,0,none⟩) ct a3,.int .i64 s.fault] (by rfl) aW.1 aW.2 ad hX;have bd:=ag a9 be;clear hX a9 be bl aA aO e0 a6 aP;obtain⟨bl,aA,aO⟩:=bh.two;refine Ln (v:=.tuple #[.agg #[.slice bH cu bc,.slice ab m L,.slice (some ⟨O,0,none⟩) ct a3,.int .i64 s.fault],.bool true]) (by simp[results,Tryz.results14,go_sem,bl]) rfl ?_;exact vj
 ):p:=h
theorem zR{p:Prop}(h:p:=by
 rintro e aS ⟨rfl,ar⟩;refine dz hK (ar) ?_;clear hK K;refine br (v:=?_) rfl (by rfl) (fun V=>?_) ?_;rotate_left
 ·go_simp;exact ei
 try simp only[PU]
 refine br (v:=?_) rfl (by rfl) (fun V=>?_) ?_;rotate_left
 ·go_simp;exact ei
 try simp only[PU]
 exact zS
 ):p:=h
theorem zT{p:Prop}(h:p:=by
 have bM:=bR.2.2.lt;have I:∀b,wr.heap.size≤b→¬(b=s∨b=wb):=fun b O h=>ad;have dG:S.heap.size≤aS.heap.size:=by have:=aW.2.2.2.2.2.1;omega
 have a4:Sl X (fresh S X) cO cG (x.args.map bk):=(aW.2.2.2.2.1.ak fun b O=>(J.block b (lK O.2 bm.2.2.2.2.2.1.size) (by have:=O.1;have:wr.drew.heap.size=wr.heap.size:=rfl;omega)).trans (bm.2.2.2.2.2.1.block b O.2 (I b O.1))).mono fun b O=>⟨by have:=O.1;have:wr.drew.heap.size=wr.heap.size:=rfl;omega,by have:=O.2;have:=bm.2.2.2.2.2.1.size;have:=J.size;omega⟩
 have cp:Sl X (fresh S X) m aO (c5 (.eM R)):=by
  exact G1
 have aY:Sl X (fun b=>S.heap.size<b∧b<X.heap.size) cO cG (x.args.map bk):=(aW.2.2.2.2.1.ak fun b O=>(J.block b (lK O.2 bm.2.2.2.2.2.1.size) (by have:=O.1;have:wr.drew.heap.size=wr.heap.size:=rfl;omega)).trans (bm.2.2.2.2.2.1.block b O.2 (I b O.1))).mono fun b O=>⟨by have:=O.1;have:wr.drew.heap.size=wr.heap.size:=rfl;omega,by have:=O.2;have:=bm.2.2.2.2.2.1.size;have:=J.size;omega⟩
 have a5:Sl X (fun b=>S.heap.size<b∧b<X.heap.size) m aO (c5 (.eM R)):=by
  exact G0
 have ao:=ag aY a5;clear aY a5;have ab:=bm.1.fresh a7.1 J fun b O=>ad;have br:=bm.2.2.2.2.2.2.on J ad;have aQ:=cI ab bo br a4 cp;clear hX d0 aL aM J bo ab br a4 cp;exact zU
 ):p:=h
theorem vk{p:Prop}(h:p:=by
 go_enter func151,ntmps151;go_upto_region 8 with(fail);generalize ba:World.alloc _ _=W;have aw:=iO ba;have bg:=gB ba;have cl:=fZ ba;have a7:Lu (y7 w W g A n c T k deep (mS 0 ⟨#[]⟩ ⟨#[]⟩)):=ae ⟨H.ai aw,aw.mono fun _ h=>h.elim,bg,cl⟩;clear ba aw bg cl;go_wp2_with(fail);refine(show Calls prog 122 #[.pointer (some ⟨g,0,none⟩),.string ⟨#[118,97,114]⟩] W _ from dx [118,97,114] g A n c T k deep W a7.ps false (by first|exact bY.1|exact gu bY.1 (by decide)) (fun h=>by first|omega|cases h)).mono ?_;rintro e aS ⟨rfl,aZ,hF⟩;have H1:=ae (a7.on ci (show cj aS g A n c T (k) deep from by simpa using aZ) hF);clear aZ hF;clear a7;go_wp2_with(fail);exact vl
 ):p:=h
theorem sf{p:Prop}(h:p:=by
 obtain⟨ao,dg,cH,fs,bK,cf⟩:=h.th;have hs:=b1.ok aZ;obtain⟨GA,gn,gc,MA,mn,mc,PA,pn,pc⟩:=p;obtain⟨bS,bL,bD,TA,tn,tc,HA,hn,hc⟩:=q;have ot:hn=s.threads.length:=by have:=hs.at_.h.1;simpa using this.symm
 have c5:bL=s.globals.length:=by have:=hs.at_.g.1;simpa using this.symm
 have tq:tn=s.table.length:=by have:=hs.at_.t.1;simpa using this.symm
 have dc:hn≤1000:=by have:=h.sm.h;omega
 have c4:=h.pc;exact si
 ):p:=h
theorem zV{p:Prop}(h:p:=by
 rintro r aS ⟨rfl,O⟩;by_cases hm:0≤bt X e
 case neg=>
  have aW:=ae (show free X T e th=false from pP ad);have aQ:bt X e<0:=ad;clear hm;exact tv
 obtain⟨k,m,hd,rfl,ap,d,f,P,bw⟩:=hT.at_ hm;rw[P];have cp:k<n2:=by have:=ht.1;omega
 have cK:m<n:=by have:=h.1;omega
 by_cases h0:0≤th
 case neg=>
  have aW:=ae (show free X T k th=false from pP ad);have j:th<0:=ad;clear h0 d f P;exact tv
 obtain⟨b,o,u,rfl,U,hx,c0,c1⟩:=(ht.ez O).hold cp;obtain rfl:hd=u:=by rw[d] at hx;injection hx
 obtain⟨K,R,mx,rfl,l,g,d0,d1,d2⟩:=(h.ez O).IE cK;have bl:=hT.bound hd (KJ d);have L:wA X m=mx.re:=by unfold wA;rw[Lc,g];rfl
 have bE:free X T k th=(hd.owner == 0 || (hd.owner == th+1 && mx.re)):=by
  exact G3
 have aW:=ae bE;clear bE hx g d f P hm L;by_cases bn:hd.owner=0
 ·have bN:=ae bn;exact G2
 have ca:(hd.owner == 0)=false:=by simpa using bn
 exact zW
 ):p:=h
theorem zX{p:Prop}(h:p:=by
 refine q4 (fun b=>b=S.heap.size+1) [14] (.free 0 (.free 1 (.free 2 (.free 6 (.free 7 (.free 8 (.held 9 (.pick [3,10,13] (fun i=>bif i == 3 then .held 4 (.free 5 (.pick [10,13] (fun i=>bif i == 10 then .free 11 (.free 12 (.pick [13] (fun _=>.pick [14] (fun _=>.stop)))) else .pick [10] (fun _=>.free 11 (.free 12 (.pick [14] (fun _=>.stop))))))) else bif i == 10 then .free 11 (.pick [3,13] (fun i=>bif i == 3 then .held 4 (.free 5 (.free 12 (.pick [13] (fun _=>.pick [14] (fun _=>.stop))))) else .pick [3] (fun _=>.held 4 (.free 5 (.free 12 (.pick [14] (fun _=>.stop))))))) else .pick [3,10] (fun i=>bif i == 3 then .held 4 (.free 5 (.pick [10] (fun _=>.free 11 (.free 12 (.pick [14] (fun _=>.stop)))))) else .free 11 (.pick [3] (fun _=>.held 4 (.free 5 (.free 12 (.pick [14] (fun _=>.stop)))))))))))))))) ?_
 iterate 6 refine tf ?_
 refine mV ?_;clear a0 ai af;exact zY
 ):p:=h
theorem zZ{p:Prop}(h:p:=by
 rintro e b6 ⟨⟨aZ,cu,bc,aX,m,L,bf,ct,a3⟩,rfl,bZ,a7⟩;have c7:=ae bZ;have cF:=(ah.2.2.2.2.1.ai bu.o).ai a7;have aW:=ag cF ((ah.1.trans bu.o).trans a7);clear bZ a7 a8 am aF d0 aL aM;obtain⟨bl,aA,aO⟩:=cF.two;clear cF;go_wp2_with(fail);generalize hX:World.setCell _ _ _=Z;exact z0
 ):p:=h
theorem sj{p:Prop}(h:p:=by
 refine ax rfl (fun K hK=>?_);go_simp;refine dO hK ?_;clear hK K;refine pf ?_;refine ax rfl (fun K hK=>?_);go_simp;refine dO hK ?_;clear hK K;exact sk
 ):p:=h
theorem eP{p:Prop}(h:p:=by
 refine ax rfl (fun K hK=>?_);go_simp;refine dO hK ?_;clear hK K;refine aE ?_;exact dC
 ):p:=h
theorem pg{p:Prop}(h:p:=by
 obtain⟨I,bO,aK,e,co,hs⟩:=a1.1 a5;simp only[List.cons.injEq,Value.int.injEq,Value.string.injEq,Value.slice.injEq,and_true,true_and] at e;obtain⟨rfl,rfl,rfl,rfl,rfl,rfl⟩:=e;exact pj
 ):p:=h
theorem sn{p:Prop}(h:p:=by
 have aW:=ae (show decide (S=T)=false from decide_eq_false (fun h=>bf (by rw[←hl,←cg,h])));have v:(n != n2)=true:=by simpa using bf
 have m:((n:Int) != (n2:Int))=true:=by simp;omega
 clear hl cg bf;exact so
 ):p:=h
theorem hr{p:Prop}(h:p:=by
 obtain⟨GA,gn,gc,MA,mn,mc,PA,pn,pc⟩:=p;obtain⟨bS,bL,bD,TA,tn,tc,HA,hn,hc⟩:=q;exact hv
 ):p:=h
theorem z1{p:Prop}(h:p:=by
 have aw:Ext w (w.alloc (.cells #[.bool false,.int .i64 i,.slice (some ⟨b,o,none⟩) 1 pc] 56)):=Lo.alloc _;have c:aq (w.alloc (.cells #[.bool false,.int .i64 i,.slice (some ⟨b,o,none⟩) 1 pc] 56)) w.heap.size 56 #[.bool false,.int .i64 i,.slice (some ⟨b,o,none⟩) 1 pc]:=Lp;obtain⟨ar,F,c9,hm,T,e0,e1,e2,e3⟩:=h;obtain⟨ht,bn,bO,rfl,aV,aQ,f0,f1,f2⟩:=F.Jg c9;have P:bO=m:=by rw[hm] at aQ;injection aQ with h;exact h.symm
 subst P;exact z2
 ):p:=h
theorem fj{p:Prop}(h:p:=by
 refine ao ?_;refine bN rfl (fun K hK=>?_) rfl;go_simp;refine dO hK ?_;clear hK K;exact eQ
 ):p:=h
theorem vm{p:Prop}(h:p:=by
 have d0:=Z 0 _ rfl;have d1:=Z 1 _ rfl;have d2:=Z 2 _ rfl;have d3:=Z 3 _ rfl;have d4:=Z 4 _ rfl;have d5:=Z 5 _ rfl;have d6:=Z 6 _ rfl;have d7:=Z 7 _ rfl;have d8:=Z 8 _ rfl;have d9:=Z 9 _ rfl;have d10:=Z 10 _ rfl;simp only[KQ] at d0;exact vn
 ):p:=h
theorem sq{p:Prop}(h:p:=by
 obtain⟨da,cW,dc,rfl,cH,c4⟩:=a1.1 Q;have c0:=Z 0 _ rfl;have c1:=Z 1 _ rfl;have c2:=Z 2 _ rfl;have c3:=Z 3 _ rfl;simp only[KQ] at c0;have aX:b<wr.heap.size:=O;exact sr
 ):p:=h
theorem z3{p:Prop}(h:p:=by
 go_upto_region 1 with(fail);generalize ba:World.alloc _ _=W;have aw:=kq ba;have b7:=jo ba;have ce:=g5 ba;have a5:=jq ba;have ah:=hR aw b7 ce a5 (hu.on aw) (hs.on aw) (D.on bK (Fr.ext aw));have x:=hT.on aw;obtain⟨a0,ai,af⟩:=b7.two;obtain⟨a8,am,aF⟩:=ce.two;obtain⟨d0,aL,aM⟩:=a5.two;have aa:=ae x;clear ba aw b7 ce a5 x hT hu hs bK a1 hS hU ht hp hx hF y r;go_wp2_with(fail);exact z4
 ):p:=h
theorem z5{p:Prop}(h:p:=by
 clear hX d0 aL aM HA;go_wp2_with(fail);refine(show Calls prog 150 #[.pointer (some ⟨g,0,none⟩),.string ⟨#[59]⟩] X _ from mL [59] g A n c T (k+1+1) deep X aQ.ps bY.2.2.2.2 ad).mono ?_;rintro e cx ⟨rfl,aZ,hF⟩;have bd:=ae (aQ.on ci aZ hF);clear aZ hF aQ;obtain⟨d0,aL,aM⟩:=bd.s.two;obtain⟨bl,aA,aO⟩:=bd.r.two;simp only[mS] at d0;go_wp2_with(fail);generalize hX:World.setCell _ _ _=V;exact z6
 ):p:=h
theorem z7{p:Prop}(h:p:=by
 clear bt;have dx:=cj.size;go_wp2_with(fail);refine(oU P s ⟨bS,bL,bD,TA,tn,tc,HA,hn,hc⟩ z cN (cc.2.2.GJ G.o (ah.1.trans cj.o)) (fun b O=>KH (G.o b O) (ah.1.trans cj.o).size)).mono ?_;rintro e c6 ⟨⟨co,bB,bQ,bf,bs,bn,bR,cF,b9⟩,rfl,bZ,bX⟩;have e4:=bX.size;have c7:=ae bZ;have aW:=ag (ah.2.2.2.1.ai (cj.trans bX)) ((ah.1.trans cj.o).trans bX);exact z8
 ):p:=h
theorem z9{p:Prop}(h:p:=by
 obtain⟨n,nm,b,o,c,bs,Z,bv,E,cE,cw,cG,b5,T,O,hx,bb,e0,e1,e2,e3,cH,cr,a7,e7⟩:=h.rep;injection T with h0 T;injection T with ac T;injection T with av T;injection T with aV T;subst h0 ac av aV;clear T;have cy:=h.ok.1;have aJ:lD w G L ng nl g l x [bs,Z,bv,E]:=⟨h.gs,h.ls,h.ok.2.1,hx⟩
 have j:lD w G L ng nl g l y [cE,cw,cG,b5]:=⟨h.gs,h.ls,h.ok.2.2,bb⟩
 exact Aa
 ):p:=h
theorem vo{p:Prop}(h:p:=by
 have a2:=h.g;have hm:=h.m;have J:=h.f;have dv:p.globals.length=gn:=by rw[←a2.1,KK]
 have lm:p.af.length=mn:=by rw[←hm.1,KK]
 have lf:p.funcs.length=fn:=by rw[←J.1,KK]
 exact vp
 ):p:=h
theorem G5{p:Prop}(h:p:=by
 generalize cr:World.setCell _ _ _=Y;obtain⟨bI,bE,bz⟩:=dU (M:=fun b=>b=s) [.int .i64 x.a9,.int .i64 x.numOf,.string x.bu,.slice cO cG cV] (by rfl) b2.o bG.2 (KG _) cr;obtain⟨bl,aA,aO⟩:=bI.two;exact Ab
 ):p:=h
theorem Ac{p:Prop}(h:p:=by
 refine(show Calls prog 122 #[.pointer (some ⟨g,0,none⟩),.string ⟨#[103,111]⟩] aS _ from dx [103,111] g A n c T k deep aS H1.ps false (by first|exact bY.1|exact gu bY.1 (by decide)) (fun h=>by first|omega|cases h)).mono ?_;rintro e aT ⟨rfl,aZ,hF⟩;have bG:=ae (H1.on ci (show cj aT g A n c T (k) deep from by simpa using aZ) hF);clear aZ hF;clear H1;go_wp2_with(fail);exact Ad
 ):p:=h
theorem Ae{p:Prop}(h:p:=by
 rintro e aS ⟨rfl,aZ,hF⟩;have H1:=aB aZ (Fr.trans (ah.2.1.mono fun _ h=>h.elim) hF) (ah.2.2.on hF ad);have ao:w.heap.size<aS.heap.size:=H1.2.2.lt;clear aZ hF;go_upto_region 2 with(fail);generalize hX:World.alloc _ _=X;have aw:=aU hX;have cA:=aG hX;have aQ:=bH (H1.1.ai aw) (H1.2.1.trans (aw.mono fun _ h=>h.elim)) (H1.2.2.ai aw) cA;clear hX aw cA H1 ah;go_wp2_with(fail);exact Af
 ):p:=h
theorem Ag{p:Prop}(h:p:=by
 have bq:=ae (show ev g l (.bin op x y)=if (ev g l x).2≠0 then (0,(ev g l x).2) else if op=16∧(ev g l x).1=0 then (0,0) else if op=17∧(ev g l x).1≠0 then (1,0) else if (ev g l y).2≠0 then (0,(ev g l y).2) else if op=16∨op=17 then (fi ((ev g l y).1 != 0),0) else arith op (ev g l x).1 (ev g l y).1 from rfl);generalize ev g l x=r1 at *;obtain⟨v1,f1⟩:=r1;exact Ah
 ):p:=h
theorem Ai{p:Prop}(h:p:=by
 go_upto_region 1 with(fail);generalize ba:World.alloc _ _=W;have aw:=I0 ba;have b7:=H9 ba;have ce:=Ia ba;have a5:=Ib ba;have cA:=Ic ba;have ah:=pe aw b7 ce a5 cA (cc.1.on aw) (cc.2.1.on aw) (cc.2.2.on aw);obtain⟨a0,ai,af⟩:=b7.two;obtain⟨a8,am,aF⟩:=ce.two;obtain⟨d0,aL,aM⟩:=a5.two;clear ba aw b7 ce a5 cA cc;go_wp2_with(fail);exact Aj
 ):p:=h
theorem Ak{p:Prop}(h:p:=by
 refine q4 (fun _=>False) [6,11] (.free 0 (.free 1 (.free 2 (.held 3 (.free 4 (.held 5 (.pick [6,10] (fun i=>bif i == 6 then .free 7 (.free 8 (.free 9 (.pick [10] (fun _=>.pick [11] (fun _=>.free 12 (.stop)))))) else .pick [6] (fun _=>.free 7 (.free 8 (.free 9 (.pick [11] (fun _=>.free 12 (.stop)))))))))))))) ?_
 iterate 3 refine tf ?_
 refine th ?_;refine tf ?_;refine th ?_;exact Al
 ):p:=h
theorem lI{p:Prop}(h:p:=by
 go_upto_region 1 with(fail);generalize ba:World.alloc _ _=W;have aw:=iO ba;have aR:=gB ba;have cA:=fZ ba;exact lJ
 ):p:=h
theorem Am{p:Prop}(h:p:=by
 have k:=fun bt=>Dt (s:=s) (nl:=cq.locals) (nk:=f.av.length) aQ.1 aQ.2.2.1 (Int.le_refl _) aQ.2.2.2.2.2 j bt;have an:=yg (u:=u) (s:=s) (f:=f) j;have o:=pF (u:=u) (s:=s) (f:=f) j;generalize cS u s f pl=R at *;obtain⟨v,z⟩:=R;simp only at k an o;have bm:=aB k an o;exact An
 ):p:=h
theorem Ao{p:Prop}(h:p:=by
 go_upto_region 1 with(fail);generalize ba:World.alloc _ _=W;have aw:=aU ba;have aR:aq W w.heap.size 54 #[.int .i64 0,.int .i64 0,.string ⟨#[]⟩,.slice none 0 0]:=ba▸aq.hL _ _ _ rfl;have ah:=bH (H.1.ai aw) (H.2.ai aw) (aw.mono (M':=fun b=>b=s) fun _ h=>h.elim) aR;obtain⟨a0,ai,af⟩:=ah.1.blk.two;clear ba aw aR H;exact Ap
 ):p:=h
theorem Aq{p:Prop}(h:p:=by
 have cg:=ht.1;have cF:n2≤5000:=by have:=cA hX;have:=hT.len;omega
 have aJ:=eZ X T e th;have hlen:(n2:Int)=elems X:=by rw[←eu,←hT.len,cg]
 generalize aR:cV X T e th=L at *;obtain⟨b2,b4⟩:=aI aR hlen;clear aR hlen;rw[cg] at aJ;have I:=ae aJ;clear aJ;exact Ar
 ):p:=h
theorem As{p:Prop}(h:p:=by
 have o:ck<X.heap.size:=KH Z br.size;clear hX br bo;go_upto_region 7 with(fail);generalize cr:World.alloc _ _=Y;have bE:=aU cr;have bI:=aG cr;have bC:=ae (aQ.1.trans bE);obtain⟨bs,aX,a4⟩:=(aQ.2.ai bE).two;obtain⟨cE,N,aF⟩:=bI.two;clear cr bE bI;go_wp2_with(fail);exact At
 ):p:=h
theorem pk{p:Prop}(h:p:=by
 try refine hN _ _ ?_
 unfold lF;refine⟨au,bi,ba,bq,on,b7,?_⟩
 iterate 240 apply Exists.intro
 refine⟨?_,rfl⟩;exact po
 ):p:=h
theorem Au{p:Prop}(h:p:=by
 try simp only[PU]
 refine dm rfl (by rfl) ?_
 try simp only[PU]
 refine dm rfl (by rfl) ?_
 try simp only[PU]
 refine dm rfl (by rfl) ?_
 try simp only[PU]
 refine ih rfl (by rfl) ?_
 try simp only[PU]
 refine dm rfl (by rfl) ?_
 try simp only[PU]
 refine ih rfl (by rfl) ?_
 try simp only[PU]
 exact Av
 ):p:=h
theorem Aw{p:Prop}(h:p:=by
 generalize hV:World.alloc _ _=V;have L:=aU hV;have bu:=ae (bq.trans L);have G:=ae (b2.ai L);have hC:=aG hV;have bR:=ae hC;have cl:=ae (cA.on (Fr.ext L));have dr:=ae (bl.on (Fr.ext L));clear hV a0 ai af c0 c1 c2 aX bq b2 L cA bl;obtain⟨a0,ai,af⟩:=hC.two;clear hC;exact Ax
 ):p:=h
theorem Ay{p:Prop}(h:p:=by
 obtain⟨len,hlen,an⟩:=h.ok;have hx:(∃e,x.expr=some e∧gd (bx u) cq.locals e)∧0≤x.target∧(x.op=1→x.dg=true→x.target<u.globals.length)∧(x.op=1→x.dg=false→x.target<f.ints.length):=by
  exact Ig
 obtain⟨⟨ex,hex,aK⟩,dw,bO,a1⟩:=hx;exact Az
 ):p:=h
theorem vq{p:Prop}(h:p:=by
 have b9:l.length=n:=by have:=hl.1;simpa using this
 have ce:k.length=m:=by have:=ap.1;simpa using this
 have b4:=aB b9 ce a1;have bm:=ag hl ap;clear b9 ce a1 hl ap;exact vr
 ):p:=h
theorem AA{p:Prop}(h:p:=by
 obtain⟨n,nm,b,o,c,bs,Z,bv,E,T,O,hx,e0,e1,e2,e3⟩:=h.rep;injection T with h0 T;injection T with ac T;injection T with av T;injection T with aV T;subst h0 ac av aV;clear T;have cy:=h.ok.1;have aJ:lD w G L ng nl g l x [bs,Z,bv,E]:=⟨h.gs,h.ls,h.ok.2,hx⟩
 exact AB
 ):p:=h
theorem vt{p:Prop}(h:p:=by
 unfold gH at h;rw[bK,fp] at h;obtain⟨y,rfl,h⟩:=h;obtain⟨x,cG,rfl,hx,bb⟩:=dE.1 h;unfold fU at hx;rw[bK,cp] at hx;obtain⟨z,rfl,hx⟩:=hx;exact vu
 ):p:=h
theorem AD{p:Prop}(h:p:=by
 have cK:=bp 0 _ rfl;simp only[KQ] at cK;have cv:=bp 1 _ rfl;have bP:=bp 2 _ rfl;have cU:=bp 3 _ rfl;have H:=bp 4 _ rfl;have b2:=bp 5 _ rfl;have cO:=bp 6 _ rfl;have b0:=bp 7 _ rfl;have b3:=bp 8 _ rfl;have b4:=bp 9 _ rfl;have bN:=bp 10 _ rfl;have bX:=bp 11 _ rfl;exact AE
 ):p:=h
theorem ss{p:Prop}(h:p:=by
 have dg:gn≤16:=by have:=hp.n7;omega
 have cF:mn≤12:=by have:=hp.wi;omega
 have dJ:fn≤16:=by have:=hp.D0;omega
 exact su
 ):p:=h
theorem AF{p:Prop}(h:p:=by
 obtain⟨hM,J,hG⟩:=h.own hX;obtain⟨GA,gn,gc,MA,mn,mc,FA,fn,fc,aR,cv,bP,cU,H⟩:=h.blk;refine⟨⟨⟨GA,gn,gc,MA,mn,mc,FA,fn,fc,?_,cv,bP,cU.cQ hM,H.cQ hM⟩,⟨h.base.1,KX h.base.2 hM.fr.size⟩,⟨h.names.1,h.names.2.cQ hM⟩,hG⟩,hM⟩;exact AG
 ):p:=h
theorem AH{p:Prop}(h:p:=by
 have a9:=ae (show ev g l (.bin op x y)=if (ev g l y).2≠0 then (0,(ev g l y).2) else if op=16∨op=17 then (fi ((ev g l y).1 != 0),0) else arith op v1 (ev g l y).1 by rw[bq.o];simp only[bw.o,ne_eq,not_true_eq_false,if_false];rw[if_neg bx,if_neg bn]);exact AI
 ):p:=h
theorem AJ{p:Prop}(h:p:=by
 have ay:(0:Int)<(d:Int):=ad;obtain⟨i,aK⟩:∃i,d=i+1:=⟨d - 1,ad⟩
 have aB:(d:Int) - 1=((i:Nat):Int):=ad;have bp:i≤1:=ad;have j:=ag aK aB;clear aK aB;have gP:¬wb=s:=ad;have W:¬ck=s:=ad;exact AK
 ):p:=h
theorem AL{p:Prop}(h:p:=by
 by_cases aV:0≤th
 case neg=>
  have J:heldBy X T k th=false:=jX ad;have ca:=ae (no J);have bV:=ae J;have l:th<0:=ad;clear aV no J cg d f P hm;go_wp2
  go_ret2
  exact q9
 have bl:=hT.bound hd (KJ d);exact AM
 ):p:=h
theorem pq{p:Prop}(h:p:=by
 go_upto_region 1 with(fail);generalize ba:World.alloc _ _=W;have aw:=iO ba;have bs:=gB ba;have bF:=fZ ba;exact pr
 ):p:=h
theorem AN{p:Prop}(h:p:=by
 have bd:=ae a9;clear hX a9 be bl aA aO a8 am aF;obtain⟨bl,aA,aO⟩:=bh.two;refine Ln (v:=.tuple #[.agg #[.slice bS bL bD,.slice TA tn tc,.slice HA hn hc,.int .i64 s.fault],.bool false]) (by simp[results,Tryz.results14,go_sem,bl]) rfl ?_;exact AO
 ):p:=h
theorem vv{p:Prop}(h:p:=by
 have ar:cK.length=fs.length*4:=by rw[D.hb _ _ h.fr,D.gS (z:=4) (fun d hd=>by obtain⟨x,_,rfl⟩:=Lf.1 hd;rfl),KK]
 exact vw
 ):p:=h
theorem AP{p:Prop}(h:p:=by
 obtain⟨O,bn,b1,c6,n,fc,IA,i,ic,S,l,lc,e,hT⟩:=hs.at_.top a1 ht;simp only at e;subst e;obtain⟨hF,_,_⟩:=hS.top ht;have y:=hF.sR hp;have r:cU (bx u) cq.locals f.av.length pl:=by rw[y];exact hx
 rw[ix ht];exact AQ
 ):p:=h
theorem AR{p:Prop}(h:p:=by
 refine eK (fun _=>False) [(0,3),(1,0),(2,3),(3,3),(4,3),(5,3),(6,3),(7,3),(8,3),(9,3),(10,2)] ?_;refine pf ?_;refine ph ?_
 iterate 5 refine pf ?_
 rw[show IntKind.i64.wrap ((fs.length:Nat):Int)=(fs.length:Int) from IntWalk.i64_in _ ad];exact AS
 ):p:=h
theorem AT{p:Prop}(h:p:=by
 have bO:b1<wr.heap.size:=cx;have Z:ck<wr.heap.size:=bX;have a1:=b4.2.2 f (KJ G);have b0:x=f.ints.length:=by have:=J.1;simpa using this.symm
 have ar:y=f.av.length:=by have:=cf.1;simpa using this.symm
 exact AU
 ):p:=h
theorem AV{p:Prop}(h:p:=by
 have a2:S.grownBy ab (Value.slice A n c).ownBlock:=⟨cU.os,cU.tape,cU.output,by have:=cU.size;simp at this;omega,fun k ap bf=>(cU.block k (by simp;omega) bf).trans (Below.heap_alloc S _ k ap)⟩
 obtain⟨I,aK,rfl,hc,_⟩:=b2 bP;exact AW
 ):p:=h
theorem vx{p:Prop}(h:p:=by
 refine dP ?_;refine ao ?_;refine bN rfl (fun K hK=>?_) rfl;go_simp;generalize hV:World.alloc _ _=V;have aR:=aG hV;have bj:=aU hV;clear hV;exact vy
 ):p:=h
theorem AX{p:Prop}(h:p:=by
 rintro e b6 ⟨ar,rfl,r,a7⟩;refine dz hK (a7) ?_;clear hK K
 iterate 3 refine tf ?_
 refine ao ?_;refine dP ?_;generalize bu:World.alloc _ _=Z;have e2:=aU bu;have aR:=aG bu;have s2:=a3.size;have T:=a7.size;have eD:=e2.size;exact AY
 ):p:=h
theorem AZ{p:Prop}(h:p:=by
 obtain⟨O,bn,b1,c6,n,fc,IA,i,ic,S,l,lc,e,hT⟩:=hs.at_.top a1 ht;simp only at e;subst e;obtain⟨pb,fu,N,co,bW,bJ,v,e,eN,gt,c4,P,bB,bM,cm⟩:=hu.at_.code hp hx p0 bY;simp only at e;subst e;simp only at gt;exact A0
 ):p:=h
theorem A1{p:Prop}(h:p:=by
 have d0:=(f.cell (p:=⟨b,o,none⟩) O).trans e0;have d1:=(f.cell (p:=⟨b,o+1,none⟩) O).trans e1;have d2:=(f.cell (p:=⟨b,o+2,none⟩) O).trans e2;have d3:=(f.cell (p:=⟨b,o+3,none⟩) O).trans e3;exact A3
 ):p:=h
theorem A4{p:Prop}(h:p:=by
 go_wp2;refine eK (fun _=>False) [(0,3),(1,3),(2,3),(3,3),(4,0),(8,3),(9,0),(10,3),(11,3),(14,3),(5,1),(6,3),(7,3),(12,2),(13,3),(15,3),(16,3),(17,3)] ?_
 iterate 2 refine pf ?_
 refine br (v:=?_) rfl (by rfl) (fun V=>?_) ?_;rotate_left
 ·go_simp;exact ei
 try simp only[PU]
 refine pf ?_;refine ph ?_;refine pf ?_;refine ph ?_;refine pf ?_;refine br (v:=?_) rfl (by rfl) (fun V=>?_) ?_;rotate_left
 ·go_simp;exact ei
 try simp only[PU]
 refine pf ?_;refine aJ rfl (fun K hK=>?_);go_simp;refine(aQ.o _ _ _ _ _ _ _ (D.on bf.o (Fr.ext Lo.drew)) f.o).mono ?_;rintro e aS ⟨rfl,ar⟩;refine dz hK (ar) ?_;clear hK K;refine br (v:=?_) rfl (by rfl) (fun V=>?_) ?_;rotate_left
 ·go_simp;exact ei
 try simp only[PU]
 refine br (v:=?_) rfl (by rfl) (fun V=>?_) ?_;rotate_left
 ·go_simp;exact ei
 try simp only[PU]
 refine ax rfl (fun K hK=>?_);go_simp;rw[q.o];refine((show hj th from a5.th) (t+1) A2 n2 c2 _ L.o (Y.on (Fr.ext (Fr.aF ar))) I.o).mono ?_;rintro e aT ⟨rfl,bw⟩;refine dO hK ?_;clear hK K;refine br (v:=?_) rfl (by rfl) (fun V=>?_) ?_;rotate_left
 ·go_simp;exact ei
 try simp only[PU]
 refine br (v:=?_) rfl (by rfl) (fun V=>?_) ?_;rotate_left
 ·go_simp;exact ei
 try simp only[PU]
 refine br (v:=?_) rfl (by rfl) (fun V=>?_) ?_;rotate_left
 ·go_simp;exact ei
 try simp only[PU]
 refine pf ?_;refine aE ?_;have bu:=ae ((Fr.aF ar).trans bw);obtain⟨v0,U⟩:=Fr.tb bu.o;clear ar bw;exact xe
 ):p:=h
theorem A5{p:Prop}(h:p:=by
 rintro e aS ⟨rfl,ar⟩;refine dz hK (ar) ?_;clear hK K;refine br (v:=?_) rfl (by rfl) (fun V=>?_) ?_;rotate_left
 ·go_simp;exact ei
 try simp only[PU]
 refine br (v:=?_) rfl (by rfl) (fun V=>?_) ?_;rotate_left
 ·go_simp;exact ei
 try simp only[PU]
 exact Bk
 ):p:=h
theorem A6{p:Prop}(h:p:=by
 go_wp2_with(fail);generalize hX:World.setCell _ _ _=X;obtain⟨bo,br,cg⟩:=bA (w:=w) [.int .i64 0,.int .i64 0,.slice none 0 0,.slice none 0 0] (by rfl) bq.2 bq.1 ad hX;have aQ:=ae br;clear hX br cg a0 ai af bl aA aO cm;exact Ie
 ):p:=h
theorem A7{p:Prop}(h:p:=by
 clear hx g hd;go_wp2;go_quiet (fail)
 go_wp2;go_roundw
 case rel=>
  refine⟨k+1,ad,by go_num,fun j bi=>?_,dH O _⟩;by_cases z:j<k
  ·exact aA.o j z
  ·obtain rfl:j=k:=ad;exact aQ.o
 case measure=>exact aH
 ):p:=h
theorem A8{p:Prop}(h:p:=by
 obtain⟨bl,aA,aO⟩:=bo.two;refine Ln (v:=.tuple #[.agg #[.int .i64 0,.int .i64 0,.slice none 0 0,.slice none 0 0],.bool false]) (by simp[results,Tryz.results64,go_sem,bl]) rfl ?_;exact⟨rfl,aQ.o⟩
 ):p:=h
theorem A9{p:Prop}(h:p:=by
 rw[bV.o];exact ff (B:=V.heap.size) bC.1 bd.2 (fun b O=>⟨fun hl=>by have:=G.o b hl;omega,ad⟩) (fun b O=>by have:=G.o b O;omega) ad bd.1 (by rw[dZ bY.2.1])
 ):p:=h
theorem Ba{p:Prop}(h:p:=by
 refine eK (fun _=>False) [(0,3),(1,3),(2,3),(3,0),(4,3),(5,0),(6,3),(7,3),(8,2)] ?_
 iterate 3 refine pf ?_
 refine ph ?_;refine pf ?_;refine ph ?_
 iterate 2 refine pf ?_
 exact eP
 ):p:=h
theorem Bb{p:Prop}(h:p:=by
 refine eK (fun b=>b=s) [(0,3),(1,3),(3,3),(4,0),(5,3),(6,3),(7,3),(9,3),(2,1),(8,2),(10,2),(11,3),(12,2),(13,3),(14,2)] ?_
 iterate 3 refine pf ?_
 exact G4
 ):p:=h
theorem Bc{p:Prop}(h:p:=by
 go_wp2_with(fail);refine(aQ.o rs cc c7 rc W ag.o f.o).mono ?_;rintro e aS ⟨rfl,ar⟩;have bu:=ae ar;clear ar;exact xe
 ):p:=h
theorem sw{p:Prop}(h:p:=by
 refine dO hK ?_;clear hK K;refine pf ?_;exact eP
 ):p:=h
theorem Bd{p:Prop}(h:p:=by
 obtain⟨e0,a6,aP⟩:=aR.two;have b2:=ae aR;clear a0 ai af h he aR hx aN cd;go_wp2_with(fail);exact G5
 ):p:=h
theorem Be{p:Prop}(h:p:=by
 by_cases bi:j<i
 ·exact bq.2 j bi
 ·rw[List.getElem?_eq_none (aD b4.1),List.getElem?_eq_none (aD b4.2.1)]
 ):p:=h
theorem Bf{p:Prop}(h:p:=by
 clear hx g hd;go_wp2;go_quiet (fail)
 go_wp2;go_ret;exact⟨ret_bool (by rw[aW.o]),dH O _⟩
 ):p:=h
theorem Bg{p:Prop}(h:p:=by
 go_wp2;go_roundw
 case rel=>exact⟨k+1,ad,by go_num,a4.o,cb.o⟩
 case measure=>exact aH
 ):p:=h
theorem Bh{p:Prop}(h:p:=by
 rintro aW az j bT ⟨ay,aj,dI,gs,bi⟩;obtain⟨bs,aX,a4⟩:=dI.two;exact fj
 ):p:=h
theorem Bi{p:Prop}(h:p:=by
 have dY:O<cQ.heap.size:=ad
 iterate 2 refine pf ?_
 exact eP
 ):p:=h
theorem Bj{p:Prop}(h:p:=by
 refine ph ?_;refine br (v:=?_) rfl (by rfl) (fun V=>?_) ?_;rotate_left
 ·go_simp;exact ei
 try simp only[PU]
 refine pf ?_;refine ph ?_;refine aJ rfl (fun K hK=>?_);go_simp;refine(aQ.o bY n1 c1 _ (S.on (Fr.ext Lo.drew)) f.o ab.o).mono ?_;exact A5
 ):p:=h
theorem Bk{p:Prop}(h:p:=by
 refine pf ?_;refine aE ?_;have bu:=ae (Fr.aF ar);clear ar;exact xe
 ):p:=h
end Go.Proofs.YtnhhdaggkiomoaaGreat
