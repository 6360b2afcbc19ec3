/- Part 1 of the proof. No condition of its own. -/
import Derived.BigQuiet
import Derived.Deep.Cut
import Derived.Deep.DrawnRows
import Derived.Deep.Draws
import Derived.Deep.QuietTactic
import Derived.Deep.RegionHeld3
import Derived.DeepKeys
import Derived.Handy
import Derived.IntWalk
import Derived.Laws.CopyOwn
import Derived.Laws.IdiomStrings
import Derived.Laws.StructEq
import Derived.Lib.Bytes
import Derived.Lib.SlBytesConst
import Derived.Lib.SlBytesRow
import Derived.Maps.AppendAt
import Derived.OrdersHeld
import Derived.RegionTactic
import Derived.StillTail
import Derived.Test.YtbkhhfajcgkpgaaGreatRows
import Derived.WalkKit
import Derived.WalkLawsBesides
import Derived.WalkSpells
import Derived.Test.YtbkhhfajcgkpgaaGreatQ00
namespace Go.Proofs.YtbkhhfajcgkpgaaGreat
open Go.RowKit Go.Proofs.Tryz
set_option maxRecDepth 1000000
set_option maxHeartbeats 25600000
set_option linter.unusedVariables false
theorem JQ:type_of% @Nat.le_refl:=@Nat.le_refl
theorem JR:type_of% @Nat.lt_of_lt_of_le:=@Nat.lt_of_lt_of_le
theorem JS:type_of% @List.length_append:=@List.length_append
theorem JT:type_of% @List.mem_of_getElem?:=@List.mem_of_getElem?
theorem JU:type_of% @List.length_map:=@List.length_map
theorem JV:type_of% @Int.eq_ofNat_of_zero_le:=@Int.eq_ofNat_of_zero_le
theorem JW:type_of% @List.map_cons:=@List.map_cons
theorem JX:type_of% @List.map_append:=@List.map_append
theorem JY:type_of% @List.take_of_length_le:=@List.take_of_length_le
theorem JZ:type_of% @List.mem_append:=@List.mem_append
theorem J0:type_of% @Nat.add_zero:=@Nat.add_zero
theorem J1:type_of% @List.length_singleton:=@List.length_singleton
theorem J2:type_of% @Bool.and_eq_true:=@Bool.and_eq_true
theorem J3:type_of% @List.length_cons:=@List.length_cons
theorem J4:type_of% @List.append_assoc:=@List.append_assoc
theorem J5:type_of% @List.cons_append:=@List.cons_append
theorem J6:type_of% @List.mem_cons:=@List.mem_cons
theorem J7:type_of% @Nat.le_trans:=@Nat.le_trans
theorem J8:type_of% @Nat.zero_add:=@Nat.zero_add
theorem J9:type_of% @List.length_nil:=@List.length_nil
theorem Ka:type_of% @List.flatMap_cons:=@List.flatMap_cons
theorem Kb:type_of% @Int.toNat_natCast:=@Int.toNat_natCast
theorem Kc:type_of% @Nat.zero_le:=@Nat.zero_le
theorem Kd:type_of% @List.map_nil:=@List.map_nil
theorem Ke:type_of% @List.mem_map:=@List.mem_map
theorem Kf:type_of% @List.append_nil:=@List.append_nil
theorem Kg:type_of% @List.nil_append:=@List.nil_append
theorem Kh:type_of% @List.mem_singleton:=@List.mem_singleton
theorem Ki:type_of% @Option.some.injEq:=@Option.some.injEq
theorem Kj:type_of% @List.drop_eq_nil_of_le:=@List.drop_eq_nil_of_le
theorem Kk:type_of% @decide_eq_true_eq:=@decide_eq_true_eq
theorem Kl:type_of% @Bool.false_eq_true:=@Bool.false_eq_true
theorem Km:type_of% @bodyPost_ret:=@bodyPost_ret
theorem Kn{M:Nat→Prop}{w:World}:Fr M w w:=Fr.refl _ _
theorem Ko{w:World}{t:TypeId}{cs:Array Value}:af (w.alloc (.cells cs t)) w.heap.size t cs:=af.new _ _ _
theorem ab{p:Prop}(h:p:=by omega):p:=h
theorem aH{p q:Prop}(x:q)(h:q→p:=by intro this;omega):p:=h x
theorem oR{p q r:Prop}(x:q)(y:r)(h:q→r→p:=by intro this this;omega):p:=h x y
theorem aM{A B:Prop}(a:A)(b:B):Kt A∧Kt B:=⟨ad a,ad b⟩
theorem ez{A B C:Prop}(a:A)(b:B)(c:C):Kt A∧Kt B∧Kt C:=⟨ad a,ad b,ad c⟩
theorem iF{A B C D:Prop}(a:A)(b:B)(c:C)(d:D):Kt A∧Kt B∧Kt C∧Kt D:=⟨ad a,ad b,ad c,ad d⟩
theorem B7{A B C D E:Prop}(a:A)(b:B)(c:C)(d:D)(e:E):Kt A∧Kt B∧Kt C∧Kt D∧Kt E:=⟨ad a,ad b,ad c,ad d,ad e⟩
theorem B8{A B C D E F G:Prop}(a:A)(b:B)(c:C)(d:D)(e:E)(f:F)(g:G):Kt A∧Kt B∧Kt C∧Kt D∧Kt E∧Kt F∧Kt G:=⟨ad a,ad b,ad c,ad d,ad e,ad f,ad g⟩
theorem aB{p:Prop}(h:p:=by simp[intOf];omega):p:=h
theorem ai{A B:Prop}(a:A)(b:B):Kt (A∧B):=ad ⟨a,b⟩
theorem aQ{A B C:Prop}(a:A)(b:B)(c:C):Kt (A∧B∧C):=ad ⟨a,b,c⟩
theorem bw{A B C D:Prop}(a:A)(b:B)(c:C)(d:D):Kt (A∧B∧C∧D):=ad ⟨a,b,c,d⟩
theorem dA{A B C D E:Prop}(a:A)(b:B)(c:C)(d:D)(e:E):Kt (A∧B∧C∧D∧E):=ad ⟨a,b,c,d,e⟩
theorem dQ{A B C D E F:Prop}(a:A)(b:B)(c:C)(d:D)(e:E)(f:F):Kt (A∧B∧C∧D∧E∧F):=ad ⟨a,b,c,d,e,f⟩
theorem iE{A B C D E F G:Prop}(a:A)(b:B)(c:C)(d:D)(e:E)(f:F)(g:G):Kt (A∧B∧C∧D∧E∧F∧G):=ad ⟨a,b,c,d,e,f,g⟩
theorem s7{A B C D E F G H:Prop}(a:A)(b:B)(c:C)(d:D)(e:E)(f:F)(g:G)(h:H):Kt (A∧B∧C∧D∧E∧F∧G∧H):=ad ⟨a,b,c,d,e,f,g,h⟩
theorem wH{A B C D E F G H I:Prop}(a:A)(b:B)(c:C)(d:D)(e:E)(f:F)(g:G)(h:H)(i:I):Kt (A∧B∧C∧D∧E∧F∧G∧H∧I):=ad ⟨a,b,c,d,e,f,g,h,i⟩
theorem ze{A B C D E F G H I J:Prop}(a:A)(b:B)(c:C)(d:D)(e:E)(f:F)(g:G)(h:H)(i:I)(j:J):Kt (A∧B∧C∧D∧E∧F∧G∧H∧I∧J):=ad ⟨a,b,c,d,e,f,g,h,i,j⟩
theorem dR{p:Prop}(h:p:=by
 rw[if_neg (by first|omega|(simp only[ByteArray.size_append];omega)|(simp;omega))]
 ):p:=h
theorem Fa{p:Prop}(h:p:=by
 go_upto_region 31 with(fail);refine eE (fun _=>False) [(0,3),(1,3),(2,3),(3,3),(4,3),(5,0),(6,0),(7,1),(8,2),(9,3),(10,3),(11,3),(12,2)] ?_
 iterate 5 refine pf ?_
 iterate 2 refine ph ?_
 refine ru ?_;generalize bD:World.drew (World.alloc _ _)=Z;have bl:Ext wr Z:=bD▸(Kn.alloc _).drew;have bC:af Z wr.heap.size 143 #[.string (iJ i),.slice PA pn pc,.slice none 0 0]:=bD▸Ko;have bd:=ho.next (ho.src.cG bl fun _ _ h=>h) (bl.mono fun _ h=>h.elim);have eI:=bX.2.2.2.ak bl;have hC:∀b,(Value.slice FA i fc).ownBlock=some b→I≤b∧b<au.heap.size:=fun b O=>b4.fs.lt O;have ii:=b4.hD;have bT:Sl Z (lg (fun b=>I≤b) Z (.slice FA i fc)) PA pn (ps.map df):=eI.sl (fun b _ h=>h.elim) (fun b O aL=>⟨ab,O,fun h=>by have:=(hC b h).2;omega⟩);have ih:au.heap.size≤Z.heap.size:=by have:=bX.2.1.size;have:=bl.size;omega
 have ba:=bw bd bC bT bX.2.2.2.cap.1;have hS:=ad hC;have ik:=b4.blk.lt;clear bD bl bC bd eI bT hC a0 ap ak f0 dw eN;refine aq rfl (fun K hK=>?_);rw[if_pos (by rfl)];refine eO Ge (.tmp 177) (.tmp 179) (by rfl) ba.1.fs ba.2.1 (EN ba.2.2.2 ba.2.2.1) (by rfl) (by rfl) (by rfl) ab ab ab ?_;intro hN hJ fn be T ce b7;have aU:=ba.1.blk.on T (fun O=>by have:=(hS.o _ O).1;omega);have aP:=ai be T;clear be T ce b7;obtain⟨a0,ap,ak⟩:=aU.two;clear aU;refine eD hK ?_;clear hK K
 iterate 3 refine pf ?_
 refine aq rfl (fun K hK=>?_);go_simp;refine eD hK ?_;clear hK K;refine aA ?_;generalize bJ:World.setCell _ _ _=gN;obtain⟨a8,L,gH⟩:=hT.o;have f:=ba.1.add aP.1 aP.2 ab (b4.Ie.snoc ch L gH gG.1);rw[bJ] at f;have bs:=ad f;clear bJ f a0 ap ak gH;go_wp2_with(fail);go_roundw
 case rel=>exact⟨i+1,hN,hJ,F++[⟨iJ i,ps,.nil⟩],by go_num,ab,bs.o⟩
 case measure=>exact aB
 ):p:=h
theorem Fb{p:Prop}(h:p:=by
 go_upto_region 24 with(fail);generalize bk:World.alloc _ _=A;have n:Ext ci A:=bk▸Kn.alloc _;have I:af A ci.heap.size 100 #[.int .i64 aL,.int .i64 aU,.slice FA cQ al,.slice b0 fl au]:=bk▸Ko;have r:=bA.trans n;have m:=aQ (RO.ak aP.1 r) (aP.2.1.trans r) (aP.2.2.trans r);have bb:=ai I n;have cR:=n.size;have db:=bA.size;have S:=ad m.2.2;clear bk n r;obtain⟨a6,am,aI⟩:=(ax.2.2.1.ak m.2.2).two;obtain⟨d0,ag,aR⟩:=(cC.ak m.2.1).two;obtain⟨e0,a5,aZ⟩:=m.1.o.two;obtain⟨bo,i,flb,aw,aj,c0,c1,c2,c3,J⟩:=m.1.top;obtain⟨f0,dw,eN⟩:=I.two;clear I;have cS:=S.size;go_wp2_with(fail);refine(oB P s ⟨bp,bQ,a7,TA,tn,tc,HA,hn,hc⟩ z A (cc.2.2.FQ k.o (ax.1.trans S.o)) (fun b O=>JR (k.o b O) (ax.1.trans S.o).size)).mono ?_;rintro e cx ⟨⟨da,bR,bW,cq,cd,b6,bL,co,bJ⟩,rfl,b9,a4⟩;have f2:=a4.size;have cm:=ad b9;have aX:=ai (ax.2.2.2.1.ak (S.trans a4)) ((ax.1.trans S.o).trans a4);clear b9 a4 f0 dw eN d0 ag aR e0 a5 aZ c0 c1 c2 c3 aj flb aw bo i J a6 am aI;obtain⟨bv,bd,be⟩:=aX.1.two;go_wp2_with(fail);generalize hX:World.setCell _ _ _=Z;obtain⟨bC,bl,bn⟩:=cb (w:=w) [.slice da bR bW,.slice cq cd b6,.slice bL co bJ,.int .i64 z] (by rfl) aX.1 aX.2 ab hX;have ba:=ai bl bn;clear hX bl bn bv bd be;obtain⟨bv,bd,be⟩:=bC.two;refine Km (v:=.tuple #[.agg #[.slice da bR bW,.slice cq cd b6,.slice bL co bJ,.int .i64 z],.bool true]) (by simp[results,Tryz.results25,go_sem,bv]) rfl ?_;rw[bX.o]
 exact eS (B:=A.heap.size) (aV:={s with fault:=z}) cm.o ba.2 (fun b O=>⟨fun hl=>by have:=k.o b hl;omega,ab⟩) (fun b O=>by have:=k.o b O;omega) ab ba.1 rfl
 ):p:=h
theorem Fc{p:Prop}(h:p:=by
 rintro r aN ⟨rfl,bF⟩;have aG:Ext w aN:=aF.trans (Fr.of bF);obtain⟨p0,aT,ew⟩:=(d.ak (Fr.of bF)).two;have gE:=(aG.cell (j:=bB+i*3+2) bN (fun h=>h)).trans f2;have br:=ad aG;clear aF aG d e0 e1 e2 e3 f0 f1 f2 cz b5 bF;generalize ev g l e=r at *;obtain⟨v,f⟩:=r;by_cases aD:f=0
 case neg=>
  have q5:(f != 0)=true:=by simpa using aD
  have b9:=ad (show idx bn.size (v,f)=(0,f) by unfold idx;rw[if_pos aD]);clear aD;go_wp2
  go_ret2
  exact fH.mk' b9.o (Fr.ext br.o)
 have q5:(f != 0)=false:=by simpa using aD
 by_cases bD:v<0
 ·have dg:decide (v<0)=true:=by simpa using bD
  have b9:=ad (show idx bn.size (v,f)=(0,2) by unfold idx;rw[if_neg (by simpa using aD),if_pos (.inl bD)]);clear aD bD;go_wp2
  go_ret2
  exact fH.mk' b9.o (Fr.ext br.o)
 have dg:decide (v<0)=false:=by simpa using bD
 by_cases u:bn.size≤v
 ·have q7:decide (v≥bn.size)=true:=by simpa using u
  have b9:=ad (show idx bn.size (v,f)=(0,2) by unfold idx;rw[if_neg (by simpa using aD),if_pos (.inr u)]);clear aD bD u;go_wp2
  go_ret2
  exact fH.mk' b9.o (Fr.ext br.o)
 ·have q7:decide (v≥bn.size)=false:=by simpa using u
  have b9:=ad (show idx bn.size (v,f)=(v,0) by unfold idx;rw[if_neg (by simpa using aD),if_neg ab]);clear aD bD u;go_wp2
  go_ret2
  exact fH.mk' b9.o (Fr.ext br.o)
 ):p:=h
theorem wI{p:Prop}(h:p:=by
 go_wp2;go_roundw
 case rel=>exact⟨k+1,ab,by go_num,by rw[←bt.o],a2.trans (z.trans br.o)⟩
 case measure=>exact aB
 ):p:=h
theorem Fe{p:Prop}(h:p:=by
 clear h;go_enter func58,ntmps58;go_upto_region 1 with(fail);generalize bg:World.alloc _ _=W;have aF:Ext w W:=bg▸(Kn.alloc _).alloc _;have aL:af W w.heap.size 30 #[.slice GA gn gc,.slice TA tn tc,.slice HA hn hc,.int .i64 z]:=bg▸(Ko).alloc _;have b8:af W (w.heap.size+1) 100 #[.int .i64 0,.int .i64 0,.slice none 0 0,.slice none 0 0]:=bg▸af.ct _ _ _ (by simp);obtain⟨a0,ap,ak⟩:=aL.two;obtain⟨bv,bd,be⟩:=b8.two;have a2:=ai aF b8;clear bg aF aL b8;go_wp2_with(fail);generalize hX:World.setCell _ _ _=X;obtain⟨bh,bo,b0⟩:=cb (w:=w) [.int .i64 0,.int .i64 0,.slice none 0 0,.slice none 0 0] (by rfl) a2.2 a2.1 ab hX;have aP:=ad bo;clear hX bo b0 a0 ap ak bv bd be;exact At
 ):p:=h
theorem Ff{p:Prop}(h:p:=by
 have bX:=ad (bK.o H);have aX:=ai (ax.2.2.2.1.ak bM.2.2) (ax.1.trans bM.2.2);have cw:=bM.2.2.size;obtain⟨bv,bd,be⟩:=aX.1.two;obtain⟨e0,a5,aZ⟩:=bM.2.1.two;go_wp2_with(fail);generalize hX:World.setCell _ _ _=Z;obtain⟨bC,bl,bn⟩:=cb (w:=w) [.slice c9 cg bw,.slice I tn az,.slice (some ⟨O,0,none⟩) a3 G,.int .i64 s.fault] (by rfl) aX.1 aX.2 ab hX;have ba:=ai bl bn;clear hX bl bn bv bd be e0 a5 aZ;obtain⟨bv,bd,be⟩:=bC.two;refine Km (v:=.tuple #[.agg #[.slice c9 cg bw,.slice I tn az,.slice (some ⟨O,0,none⟩) a3 G,.int .i64 s.fault],.bool true]) (by simp[results,Tryz.results25,go_sem,bv]) rfl ?_;exact Au
 ):p:=h
theorem Fg{p:Prop}(h:p:=by
 have aX:=ai (ax.2.2.2.1.ak bM.2.2) (ax.1.trans bM.2.2);have cw:=bM.2.2.size;obtain⟨bv,bd,be⟩:=aX.1.two;obtain⟨e0,a5,aZ⟩:=bM.2.1.two;go_wp2_with(fail);generalize hX:World.setCell _ _ _=Z;obtain⟨bC,bl,bn⟩:=cb (w:=w) [.slice c9 cg bw,.slice cL l aO,.slice (some ⟨O,0,none⟩) a3 G,.int .i64 s.fault] (by rfl) aX.1 aX.2 ab hX;have ba:=ai bl bn;clear hX bl bn bv bd be e0 a5 aZ;obtain⟨bv,bd,be⟩:=bC.two;refine Km (v:=.tuple #[.agg #[.slice c9 cg bw,.slice cL l aO,.slice (some ⟨O,0,none⟩) a3 G,.int .i64 s.fault],.bool true]) (by simp[results,Tryz.results25,go_sem,bv]) rfl ?_;rw[bX.o];exact eS (B:=V.heap.size) bM.1 ba.2 (fun b O=>⟨fun hl=>by have:=k.o b hl;omega,ab⟩) (fun b O=>by have:=k.o b O;omega) ab ba.1 (by rw[kZ ce.2.1,List.set_set];rfl)
 ):p:=h
theorem B9{p:Prop}(h:p:=by
 exact Au
 ):p:=h
theorem Fh{p:Prop}(h:p:=by
 have ay:=ai ac az;have bV:=ax.2.2.2.1.on ao.2 (fun h=>by have:=ax.2.2.2.2;omega);have aK:=ad bV;obtain⟨e0,a5,aZ⟩:=bV.two;clear h he ac az bV;go_wp2_with(fail);generalize b6:World.setCell _ _ _=Y;obtain⟨bt,bA,bk⟩:=dL (M:=fun b=>b=s) [.int .i64 1,.int .i64 cx,.string ⟨#[]⟩,.slice none 0 0] (by rfl) aK.o (ax.2.2.1.trans ao.2) (JQ _) b6;obtain⟨bv,bd,be⟩:=bt.two;refine Km (v:=.agg #[.int .i64 1,.int .i64 cx,.string ⟨#[]⟩,.slice none 0 0]) (by simp[results,Tryz.results141,go_sem,bv]) rfl ?_;exact⟨.num cx,none,0,0,rfl,(by cases d<;>exact ay.o),JQ _,Sl.bG _,ao.1.cG bk (fun b O h=>by have:=ax.2.2.2.2;omega),bA⟩
 ):p:=h
theorem Fi{p:Prop}(h:p:=by
 obtain⟨bv,bd,be⟩:=aX.1.two;go_wp2_with(fail);generalize hX:World.setCell _ _ _=Z;obtain⟨bC,bl,bn⟩:=cb (w:=w) [.slice da bR bW,.slice cq cd b6,.slice bL co bJ,.int .i64 z] (by rfl) aX.1 aX.2 ab hX;have ba:=ai bl bn;clear hX bl bn bv bd be;obtain⟨bv,bd,be⟩:=bC.two;refine Km (v:=.tuple #[.agg #[.slice da bR bW,.slice cq cd b6,.slice bL co bJ,.int .i64 z],.bool true]) (by simp[results,Tryz.results25,go_sem,bv]) rfl ?_;rw[bX.o];exact eS (B:=ci.heap.size) (aV:={s with fault:=z}) cm.o ba.2 (fun b O=>⟨fun hl=>by have:=k.o b hl;omega,ab⟩) (fun b O=>by have:=k.o b O;omega) ab ba.1 rfl
 ):p:=h
theorem Hm{p:Prop}(h:p:=by
 exact At
 ):p:=h
theorem Fj{p:Prop}(h:p:=by
 have c0:=Z 0 cj rfl;have c1:=Z 1 cr rfl;have c2:=Z 2 bm rfl;have c3:=Z 3 aa rfl;simp only[J0] at c0;have aW:b<wr.heap.size:=O;clear Z O;obtain⟨B,bZ,eL,e,cu,bO⟩:=aV.1 bJ;simp only[List.cons.injEq,and_true] at e;obtain⟨rfl,rfl,rfl,rfl⟩:=e;obtain⟨bM,ac⟩:=aM a4 bJ;clear a4 bJ bO;go_wp2_with(fail);refine(b9.o k z bM.o _ _ _ _ _ _ wr ac.o).mono ?_;rintro e aO ⟨rfl,bI⟩;have J:=ad (a2.trans bI);have bY:=ad (bs.ak bI);clear bI;exact Ay
 ):p:=h
theorem Fk{p:Prop}(h:p:=by
 go_wp2_with(fail);refine(show Calls prog 110 #[.pointer (some ⟨g,0,none⟩),.string ⟨#[40]⟩] w _ from mz [40] g A n c T k deep w H.o ce.1 ab).mono ?_;rintro e aN ⟨rfl,aY,hF⟩;have H1:=ai aY hF;clear aY hF;go_wp2_with(fail);refine(show Calls prog 74 #[.pointer (some ⟨g,0,none⟩),.string ⟨#[41]⟩] aN _ from dj [41] g A n c T (k+1) deep aN H1.1 true ce.2 (fun _=>ab)).mono ?_;rintro e aO ⟨rfl,aY,hF⟩;have aE:=ai (show bY aO g A n c T (k+2) deep from by simpa using aY) (H1.2.trans hF);clear aY hF H1;go_wp2_with(fail);go_ret;exact⟨rfl,aE.o⟩
 ):p:=h
theorem Fl{p:Prop}(h:p:=by
 rw[a9 ce.o,pT,←List.append_assoc,JX,bH];have ae:=(an.c7 (ac:=X) bZ.size fun b aw hp=>bZ.block b aw fun he=>by
  subst he;rcases hp with hp|hp
  ·exact hp.elim
  ·exact co.1 hp).c7 (ac:=bT) z.size fun b aw hp=>z.block b aw fun he=>by
  subst he;rcases hp with hp|hp
  ·exact hp.elim
  ·exact co.2 hp
 show Gr (fun _=>False) W.heap.size 153 3 bT A2 (ln+k+1) c2 _
 simpa using ae
 ):p:=h
theorem Fm{p:Prop}(h:p:=by
 go_wp2_with(fail);generalize b6:World.setCell _ _ _=Y;obtain⟨bt,bA,bk⟩:=dL (M:=fun _=>False) [.slice none 0 0,.slice none 0 0,.slice none 0 0] (by rfl) bu.2.2.1 (w:=w) bu.1 ab b6;obtain⟨bv,bd,be⟩:=bt.two;refine Km (v:=.tuple #[.agg #[.slice none 0 0,.slice none 0 0,.slice none 0 0],.int .i64 11]) (by simp[results,Tryz.results60,go_sem,bv]) rfl ?_;exact⟨_,_,_,_,_,_,_,_,_,_,rfl,bA⟩
 ):p:=h
theorem Fo{p:Prop}(h:p:=by
 go_wp2_with(at_builtin;refine ch aO kd rfl (.tmp 28) (.tmp 30) rfl (w.heap.size+1) _ k _ #[_] rfl aZ.o rfl rfl (by simp[Value.oneCell']) ab ab bO ?_;intro r bU f bC aK;obtain⟨cf,c3,rfl,bw,_⟩:=bs f);go_roundw
 case rel=>
  refine⟨k+1,ab,by go_num,l.on (Gs aZ.o bC fun g aJ=>aJ),?_⟩;rw[wa Q.o,←bt.o];exact f
 case measure=>exact aB
 ):p:=h
theorem Fp{p:Prop}(h:p:=by
 by_cases ae:op=16
 ·refine .inl ⟨by simpa using ae,?_,by simp;omega⟩;have:v1≠0:=fun aQ=>aV ⟨ae,aQ⟩;simpa using this
 ·by_cases aC:op=17
  ·refine .inr (.inl ⟨by simpa using ae,by simpa using aC,?_⟩);by_cases bD:v1=0
   ·simpa using bD
   ·exact absurd ⟨aC,bD⟩ a8
  ·exact .inr (.inr ⟨by simpa using ae,by simpa using aC⟩)
 ):p:=h
theorem Fq{p:Prop}(h:p:=by
 rintro bb bm ⟨rfl,ar⟩;have aI:=ad (F.trans ar);have aY:=ad (aK.trans ar);have cr:=ad (N.ak ar);have bL:=ad (bL.ak ar);clear a0 ap ak F aK N;obtain⟨a0,ap,ak⟩:=bL.two;clear a0 ap ak;obtain⟨a0,ap,ak⟩:=bL.two;go_wp2;go_roundw
 case rel=>exact⟨j+1,ab,by go_num,aI.o,aY.o,cr.o⟩
 case measure=>exact aB
 ):p:=h
theorem Ca{p:Prop}(h:p:=by
 constructor
 ·rintro⟨y,rfl,h⟩;rw[aZ] at h;obtain⟨bm,rfl,h⟩:=h;rw[aJ] at h;subst h;rfl
 ·rintro rfl;exact⟨_,rfl,aZ.2 ⟨_,rfl,aJ.2 rfl⟩⟩
 ):p:=h
theorem s8{p:Prop}(h:p:=by
 go_enter func57,ntmps57;go_wp2_with(fail);go_ret;exact⟨rfl,Kn.alloc _⟩
 ):p:=h
theorem wJ{p:Prop}(h:p:=by
 generalize (Value.agg #[.int .i64 x.aU,.int .i64 x.numOf,.string x.a1,.slice cl ck ct])=Y;intro aW;exact key aX Y _ aW
 ):p:=h
theorem wK{p:Prop}(h:p:=by
 go_wp2;go_roundw
 case rel=>exact⟨k+1,ab,by go_num,by rw[←bt.o],br.o⟩
 case measure=>exact aB
 ):p:=h
theorem Fs{p:Prop}(h:p:=by
 rintro e aD ⟨rfl,he⟩;have J:=ad (br.trans he);have E:=ad (m.trans he);have bY:=ad (G.ak he);clear he a0 ap ak br m G;obtain⟨a0,ap,ak⟩:=bY.two;go_wp2;refine wp_loop_rounds 1 ?_;rw[rounds_succ];go_wp2;go_roundw
 case rel=>exact⟨k+1,ab,by go_num,J.o⟩
 case measure=>exact aB
 ):p:=h
theorem wL{p:Prop}(h:p:=by
 rcases O with O|O
 ·rw[O] at hc;exact aW.2.2 hc
 ·rw[O] at hc;injection hc with hc;have:=aW.2.1;omega
 ):p:=h
theorem wM{p:Prop}(h:p:=by
 refine fin _ fun s hs=>?_;rcases J6.1 hs with rfl|hs
 ·exact⟨c,c⟩
 ·exact ao.2 s hs
 ):p:=h
theorem Ft{p:Prop}(h:p:=by
 exact Ay
 ):p:=h
theorem Cb{p:Prop}(h:p:=by
 obtain⟨A,n,c,ae,aC,aT⟩:=h.ex;exact⟨JR h.lt O.size,A,n,c,ae,(O.cell h.lt (fun h=>h)).trans aC,aT.on (Fr.ext O)⟩
 ):p:=h
theorem Cc{p:Prop}(h:p:=by
 simp only[D.aI,D.rep];constructor
 ·rintro⟨x,y,rfl,rfl,h⟩;exact⟨y,rfl,h⟩
 ·rintro⟨y,rfl,h⟩;exact⟨_,y,rfl,rfl,h⟩
 ):p:=h
theorem s9{p:Prop}(h:p:=by
 go_wp2;go_ret;exact⟨ret_bool (by rw[aX.o]),O⟩
 ):p:=h
theorem wN{p:Prop}(h:p:=by
 go_wp2;go_roundw
 case rel=>exact⟨k+1,ab,by go_num,bl.o⟩
 case measure=>exact aB
 ):p:=h
theorem Fu{p:Prop}(h:p:=by
 unfold gu at h;rw[bu,eX] at h;obtain⟨y,rfl,h⟩:=h;obtain⟨x,bm,rfl,hx,a4⟩:=dq.1 h;obtain⟨A,n,c,rfl,hc,hs⟩:=jk.1 hx;rw[D.bj] at a4;obtain⟨A2,c2,rfl⟩:=eT.1 a4;exact⟨_,A,n,c,_,_,rfl,hx⟩
 ):p:=h
theorem wO{p:Prop}(h:p:=by
 clear a8 b8;go_wp2;go_ret;refine⟨ret_bool ?_,O⟩;rw[aX.o,i.o,bj.o];simp
 ):p:=h
theorem Fv{p:Prop}(h:p:=by
 rcases h with⟨m,hm,_,ae,aC⟩|⟨_,hp⟩
 ·by_cases bi:0<m.size
  ·obtain⟨l,a,hs⟩:=ae bi;rw[al] at a;injection a with a;subst a;exact hs
  ·rw[aC bi] at al;cases al
 ·rw[hp] at al;cases al
 ):p:=h
theorem Fw{p:Prop}(h:p:=by
 obtain⟨cr,rfl,ae⟩:=aZ.1 h;obtain⟨bm,rfl,aC⟩:=aZ.1 ae;obtain⟨aa,rfl,aT⟩:=aZ.1 aC;obtain⟨A,n,c,cI,rfl,hc,hs,a9⟩:=aD.1 aT;rw[aJ] at a9;subst a9;exact⟨A,n,c,rfl,hc,hs⟩
 ):p:=h
theorem Fx{p:Prop}(h:p:=by
 unfold df;rw[bu,b9];constructor
 ·rintro⟨y,rfl,h⟩;rw[eX] at h;obtain⟨bm,rfl,h⟩:=h;rw[aJ] at h;subst h;rfl
 ·rintro rfl;exact⟨_,rfl,eX.2 ⟨_,rfl,aJ.2 rfl⟩⟩
 ):p:=h
theorem qN{p:Prop}(h:p:=by
 go_wp2;go_ret;exact⟨ret_int (by rw[aX.o]),O⟩
 ):p:=h
theorem Fy{p:Prop}(h:p:=by
 have aX:=s7 r1 co.1 co.2 gI gO cl rg ro;clear r1 gI gO cl rg ro an bs bR bY co bZ u z bE c0 cC bi;go_wp2;go_roundw
 case rel=>exact⟨k+1,A2,c2,ab,by go_num,aX.o⟩
 case measure=>exact aB
 ):p:=h
theorem Cd{p:Prop}(h:p:=by
 have hle:=(Fr.aO ar).size;clear hV ar;generalize aN.heap.size=db at *;exact key db V ⟨bf,aL,hle⟩
 ):p:=h
theorem Fz{p:Prop}(h:p:=by
 have:b=.sg [41]:=by
  simp[dN] at O;exact O.symm
 subst this;refine⟨fun h=>by simp[Atom.j9] at h,fun s hs _ c hc=>?_⟩;injection hs with hs;subst hs;simp[Atom.head] at hc;subst hc;decide
 ):p:=h
theorem FB{p:Prop}(h:p:=by
 apply List.ext_getElem?
 intro j;rw[List.getElem?_map,List.getElem?_map];by_cases bc:i=j
 ·subst bc;rw[List.getElem?_set_self (List.getElem?_eq_some_iff.1 aD).1,aD];rfl
 ·rw[List.getElem?_set_ne bc]
 ):p:=h
theorem FC{p:Prop}(h:p:=by
 have ae:=e1.size;exact⟨fun O=>by
  rcases b8 _ O with h|h
  ·exact(S _ h).2.1 rfl
  ·omega,fun O=>by
  rcases b8 _ O with h|h
  ·exact(S _ h).2.2 rfl
  ·omega⟩
 ):p:=h
theorem Hn{p:Prop}(h:p:=by
 rw[ma];exact(bu.2.2.2.2.1.aj fun b O=>aD.block b O.2 (oR O.1 aX.2.1.lt)).mono fun b O=>⟨by have:=O.1;have:=aX.2.1.lt;omega,by have:=O.2;have:=aD.size;omega⟩
 ):p:=h
theorem wP{p:Prop}(h:p:=by
 exact kb.bad aX.o (bK.below.trans (L.below.mono bK.below.size))
 ):p:=h
theorem FD{p:Prop}(h:p:=by
 simp only[Ka,Atom.bytes,J5,Kg];unfold fv;simp only[g,cx,H,Kl,if_false,k];rw[if_neg ab,if_neg ab];exact ao _
 ):p:=h
theorem Ho{p:Prop}(h:p:=by
 rw[ma];exact(bu.2.2.2.2.1.aj fun b O=>aD.block b O.2 (oR O.1 aX.2.1.lt)).mono fun b O=>⟨by have:=O.1;omega,by have:=O.2;have:=aD.size;omega⟩
 ):p:=h
theorem wQ{p:Prop}(h:p:=by
 rw[aJ] at aT;subst aT;exact⟨A,n,c,rfl,hc,hs⟩
 ):p:=h
theorem FE{p:Prop}(h:p:=by
 have aP:=ai bh b0;clear hX bh b0 o1 aa;go_wp2_with(fail);go_roundw
 case rel=>exact⟨k+1,by go_num,ab,aP.1,aP.2⟩
 case measure=>exact aB
 ):p:=h
theorem wR{p:Prop}(h:p:=by
 generalize wr.heap.size=cn;intro aF;exact key aX cn j _ aF
 ):p:=h
theorem FF{p:Prop}(h:p:=by
 refine⟨_,_,_,_,_,rfl,?_,bA.drew⟩;rw[ba.o];refine ej.2 ⟨none,0,0,rfl,JQ _,?_⟩;simp only[al];exact Sl.bG _
 ):p:=h
theorem Ce{p:Prop}(h:p:=by
 go_wp2;go_ret;exact⟨ret_int (by rw[aX.o];rfl),Kn.alloc _⟩
 ):p:=h
theorem Cf{p:Prop}(h:p:=by
 exact⟨_,rfl,aD.2 ⟨A,n,c,[],rfl,hc,hs,aJ.2 rfl⟩⟩
 ):p:=h
theorem FG{p:Prop}(h:p:=by
 go_wp2_with(fail);go_roundw
 case rel=>exact⟨k+1,by go_num,ab,by rw[←bu.o];exact bs.1,bs.2⟩
 case measure=>exact aB
 ):p:=h
theorem FH{p:Prop}(h:p:=by
 intro hm;rcases hm with hm|hm|hm
 ·have:=HA.lt;omega
 ·have:=(HA.rows.one.lt hm).2;omega
 ·have:=(HA.rows.two.lt hm).2;omega
 ):p:=h
theorem FI{p:Prop}(h:p:=by
 simp only[JZ] at O ⊢;rcases O with O|O|O
 ·exact .inl O
 ·exact .inr (.inl O)
 ·exact .inr (.inr (.inr O))
 ):p:=h
theorem wS{p:Prop}(h:p:=by
 have:=N.2;simpa[qC,qK] using this
 ):p:=h
theorem FJ{p:Prop}(h:p:=by
 rw[←hX];exact⟨Q.below.setCell (p:=⟨wr.heap.size,0,none⟩) (JQ _) _,Q.blk.aC 0 _,by simpa using Q.lt⟩
 ):p:=h
theorem rN{p:Prop}(h:p:=by
 go_wp2;go_ret;exact⟨ret_bool aX.symm,J.o⟩
 ):p:=h
theorem F9{p:Prop}(h:p:=by
 have cP:(hd.owner == 0)=true:=by simpa using a8
 clear a8;go_wp2;go_ret;exact⟨ret_bool (by rw[aX.o,bj.o];rfl),O⟩
 ):p:=h
theorem yM{p:Prop}(h:p:=by
 unfold fE;rw[bu];exact b9.2 ⟨_,rfl,aD.2 ⟨none,0,0,[],rfl,JQ _,Sl.bG _,aJ.2 rfl⟩⟩
 ):p:=h
theorem yN{p:Prop}(h:p:=by
 rcases al with⟨ae,_⟩|⟨ae,_⟩|⟨_,_,ae⟩|⟨ae,_⟩|⟨ae,_⟩|⟨ae,_⟩<;>first|exact ae|omega
 ):p:=h
theorem yO{p:Prop}(h:p:=by
 clear ax;conv=>arg 2;whnf
 go_wp2
 try refine t _ _ ?_
 unfold qz
 iterate 248 apply Exists.intro
 exact⟨au.o,rfl⟩
 ):p:=h
theorem uI{p:Prop}(h:p:=by
 go_wp2;go_ret;exact⟨ret_int (by rw[bs.o]),Below.refl _ _⟩
 ):p:=h
theorem yP{p:Prop}(h:p:=by
 rw[D.bj] at a4;obtain⟨A2,cU,c2,rfl,_,_⟩:=aV.1 a4;exact⟨_,_,_,_,_,_,_,_,rfl,a4⟩
 ):p:=h
theorem yQ{p:Prop}(h:p:=by
 rcases Nat.eq_zero_or_pos n2 with ae|ae
 ·exact ae
 ·obtain⟨b,o,aC,_⟩:=ht.2 ae;rw[h0] at aC;cases aC
 ):p:=h
theorem uJ{p:Prop}(h:p:=by
 exact h3.mk' H.o (by rw[bK.o];exact S) O bX.o
 ):p:=h
theorem uK{p:Prop}(h:p:=by
 have:=(List.getElem?_eq_some_iff.1 hm).1;simp at this;omega
 ):p:=h
theorem uL{p:Prop}(h:p:=by
 exact fH.mk' rfl ((Below.refl _ _).alloc (JQ _) _)
 ):p:=h
theorem yR{p:Prop}(h:p:=by
 exact Fr.low (M:=fun b=>b=J.heap.size+1+1) ((ae.mono fun _ h=>h.elim).trans ay) fun k aj=>ab
 ):p:=h
theorem yS{p:Prop}(h:p:=by
 rcases H with H|H
 ·rw[H] at O;exact .inl O
 ·rw[H] at O;injection O with O;right;omega
 ):p:=h
theorem yT{p:Prop}(h:p:=by
 go_wp2;go_roundw
 case rel=>exact⟨k+1,cf,c3,ab,by go_num,aX.o⟩
 case measure=>exact aB
 ):p:=h
theorem yU{p:Prop}(h:p:=by
 generalize (Value.agg (aq.val S))=Y;generalize (Value.slice A2 az c2)=t;intro F;exact key cn t Y _ F
 ):p:=h
theorem yV{p:Prop}(h:p:=by
 obtain⟨bm,rfl,h⟩:=h;rw[aZ] at h;obtain⟨aa,rfl,h⟩:=h;rw[aJ] at h;subst h;rfl
 ):p:=h
theorem yW{p:Prop}(h:p:=by
 cases j with
 | zero=>simp[nX] at bc;exact⟨rfl,bc.symm⟩
 | succ j=>simp[nX] at bc
 ):p:=h
theorem yX{p:Prop}(h:p:=by
 exact(k7.cons (.cons (.cons (.app (.cons (.nl (l:=[]) fun a h=>by simp at h)))))).2 a aV
 ):p:=h
theorem uM{p:Prop}(h:p:=by
 go_wp2;go_ret;exact⟨rfl,Kn.alloc _⟩
 ):p:=h
theorem yY{p:Prop}(h:p:=by
 simp only[VE.aU,VE.numOf,VE.a1] at *;go_wp2;go_ret;exact⟨ret_str bW.o,a2.o⟩
 ):p:=h
theorem yZ{p:Prop}(h:p:=by
 by_cases z:j<k
 ·exact J.o j z
 ·obtain rfl:j=k:=ab;exact aP.o
 ):p:=h
theorem y0{p:Prop}(h:p:=by
 have:=ba.2.2.1
 cases d with
 | zero=>exact this.elim
 | succ cz=>exact⟨cz,rfl⟩
 ):p:=h
theorem y1{p:Prop}(h:p:=by
 have ae:=P.2.2;have aC:=bs.2;simp only[JW,Kd,aC];exact ae
 ):p:=h
theorem y2{p:Prop}(h:p:=by
 conv=>lhs;rw[←cT ca]
 simp only[ByteArray.append_assoc,ag];simp
 ):p:=h
theorem y3{p:Prop}(h:p:=by
 exact vY (q:=⟨bp,bQ,a7,TA,tn,tc,HA,hn,hc⟩) cc.2.2 k.o ba.o
 ):p:=h
theorem y4{p:Prop}(h:p:=by
 clear hx cm K;go_wp2_with(fail);go_ret;rw[bX.o];exact g3.nil (Fr.of aX.2.1)
 ):p:=h
theorem y5{p:Prop}(h:p:=by
 unfold o9;rw[List.range_succ,JX,List.filter_append];simp[h]
 ):p:=h
theorem y6{p:Prop}(h:p:=by
 simp only[al.eA,ax.decl,E3,Kf];cases d<;>exact Iff.rfl
 ):p:=h
theorem y7{p:Prop}(h:p:=by
 intro x hx;obtain⟨j,bc⟩:=List.getElem?_of_mem hx;simpa using h j x bc
 ):p:=h
theorem y8{p:Prop}(h:p:=by
 exact kU _ _ _ _ _ (by rw[l9];omega) (by rw[l9];omega)
 ):p:=h
theorem y9{p:Prop}(h:p:=by
 clear hm;go_wp2;go_ret;exact⟨ret_int (by rw[aX.o];rfl),aF.alloc _⟩
 ):p:=h
theorem Ga{p:Prop}(h:p:=by
 unfold free;rw[decide_eq_true ⟨hm,h0⟩,f,P,b0,Bool.true_and]
 ):p:=h
theorem za{p:Prop}(h:p:=by
 rw[qV,←List.append_assoc];exact JZ.2 (.inl this)
 ):p:=h
theorem zb{p:Prop}(h:p:=by
 simp only[cS,count_nil,bc,cp,eg];omega
 ):p:=h
theorem rO{p:Prop}(h:p:=by
 go_enter func25,ntmps25;go_upto_region 1 with(fail);generalize bg:World.alloc _ _=W;have aF:Ext w W:=bg▸((Kn.alloc _).alloc _).alloc _;have bP:af W w.heap.size 26 #[.slice GA gn gc,.slice MA mn mc,.slice PA pn pc,.int .i64 u.main]:=bg▸((Ko).alloc _).alloc _;have bG:af W (w.heap.size+1) 30 #[.slice bp bQ a7,.slice TA tn tc,.slice HA hn hc,.int .i64 s.fault]:=bg▸(af.ct _ _ _ (by simp)).alloc _;have b8:af W (w.heap.size+2) 30 #[.slice none 0 0,.slice none 0 0,.slice none 0 0,.int .i64 0]:=bg▸af.ct _ _ _ (by simp);have ax:=dQ aF bP bG b8 (cc.1.on aF) (cc.2.1.on aF);have cA:=aF.size;have df:=b8.lt;obtain⟨a0,ap,ak⟩:=bP.two;obtain⟨a6,am,aI⟩:=bG.two;clear bg aF bP bG b8;go_wp2_with(fail);refine(kA u s t f Q x W ⟨GA,gn,gc,MA,mn,mc,PA,pn,pc⟩ ⟨bp,bQ,a7,TA,tn,tc,HA,hn,hc⟩ ⟨g.sm,g.ht,g.hp,g.hx,g.hF.proc,g.pc.1,g.il,g.kl,ax.2.2.2.2.1,ax.2.2.2.2.2⟩).mono ?_;rintro e aN ⟨⟨eo,en,es,EA,em,ec,QA,qm,qc,cN,j,cy,KA,cK,kc⟩,rfl,bD,aG⟩;have cI:=ai bD aG;clear a0 ap ak a6 am aI bD aG;dsimp only[IV.val];go_upto_region 2 with(fail);generalize hV:World.alloc _ _=V;have bY:Ext aN V:=hV▸Kn.alloc _;have cX:af V aN.heap.size 62 #[.int .i64 x.op,.int .i64 x.target,.bool x.c8,.int .i64 eo,.int .i64 en,.string es,.slice EA em ec,.bool x.place.param,.int .i64 x.place.index,.slice QA qm qc,.slice cN j cy,.slice KA cK kc]:=hV▸Ko;have bf:Ext W V:=cI.2.trans bY;have cM:=bf.size;have cD:=cX.lt;have dB:=cI.2.size;have b1:=ad bf;have dj:=ad (cI.1.on bY);have cC:=ad cX;obtain⟨a6,am,aI⟩:=(ax.2.2.1.ak bf).two
 clear hV bf bY cX cI;have di:w.heap.size+2<V.heap.size:=ab;go_wp2_with(fail);refine(EC P s t fs f ⟨bp,bQ,a7,TA,tn,tc,HA,hn,hc⟩ V (cc.2.2.FQ k.o (ax.1.trans b1.o)) (fun b O=>JR (k.o b O) (ax.1.trans b1.o).size) g.sm cZ ce.2.1).mono ?_;rintro e bU ⟨⟨c9,cg,bw,cL,l,aO,bs,a3,G⟩,O,lb,lc,hx,br,cO,cE,dH,y,F1,F2,a8,rfl,bB,dl⟩;have ao:=ai bB dl;have cu:=bB.size;clear bB dl a6 am aI;dsimp only[SV.val];go_upto_region 5 with(fail);generalize hU:World.alloc _ _=U;have ck:Ext bU U:=hU▸Kn.alloc _;have ct:af U bU.heap.size 30 #[.slice c9 cg bw,.slice cL l aO,.slice bs a3 G,.int .i64 s.fault]:=hU▸Ko;have c4:=ao.2 U bU.heap.size ck ct (JQ _);exact rP
 ):p:=h
theorem rQ{p:Prop}(h:p:=by
 have dk:=c4.sj;have bN:=c4.gl;have aD:=c4.tl;have bO:=c4.hl;simp only at dk bN aD bO;subst dk;obtain⟨bo,i,flb,aw,aj,c0,c1,c2,c3,J⟩:=c4.top;have dh:Ext V U:=ao.1.trans ck;have dG:=(c4.lo lb (by simp)).1;have bj:=dA c4 dh bN aD bO;have bH:t<(a3:Int):=by have:=ce.2.2.2.2;omega
 have dC:((fs.length:Nat):Int)<(lc:Int):=by have:=c4.l.cap;omega
 have dE:fs.length≤lc:=ab;obtain⟨e0,a5,aZ⟩:=ct.two;clear hU ck ct c4 dh bN aD bO ao;go_upto_region 8 with(fail);generalize hX:World.setCell _ _ _=X;have dc:RO P V.heap.size X {s with threads:=s.threads.set t.toNat (fs++[next f])} t.toNat fs (next f) bU.heap.size ⟨c9,cg,bw,cL,l,aO,some ⟨O,0,none⟩,a3,G⟩ O lb lc hx br cO cE dH y F1 F2 a8:=hX▸bj.1.pc (f.pc+1);have bZ:Fr (fun b=>b=lb) U X:=hX▸(Fr.refl (fun b=>b=lb) U).setCell (.inl rfl) _;have cP:Ext V X:=Fr.low (M:=fun b=>b=lb) (Fr.trans (Fr.mono bj.2.1 fun _ h=>h.elim) bZ) fun b O=>ab;have dd:=b1.trans cP;have aP:=aQ dc cP dd;have dz:=cP.size;clear hX bZ e0 a5 aZ c0 c1 c2 c3 aj flb aw bo i J;obtain⟨bo,i,flb,aw,aj,c0,c1,c2,c3,J⟩:=dc.top;obtain⟨a0,ap,ak⟩:=(ax.2.1.ak dd).two;obtain⟨a6,am,aI⟩:=(ax.2.2.1.ak dd).two;obtain⟨d0,ag,aR⟩:=(cC.ak cP).two;obtain⟨e0,a5,aZ⟩:=dc.o.two;have dF:=(dc.lo bU.heap.size (by simp))
 clear dc cP dd;exact rR
 ):p:=h
theorem lx{p:Prop}(h:p:=by
 intro p aB B b7 be ps V T ls N J L W aY QA ca qc bI bc o u bs on bG bN bv dw aL bm wr a1 b4 eI cg nH au bL eO c2 bX cc aM bd bV Q hQ0 hN K hK;intros
 obtain⟨s,wb,sA,bQ,a7,sl,GA,gn,gc,MA,mn,mc,FA,fn,fc,M,F,ar⟩:=p;simp only at bv a1 b4 eI;obtain⟨a0,ap,ak⟩:=bL.1.blk.two;obtain⟨a6,am,aI⟩:=bL.2.1.two;obtain⟨d0,ag,aR⟩:=bL.2.2.two;conv=>arg 2;whnf
 conv at hK=>enter [a,w,1,2];whnf
 exact ly
 ):p:=h
theorem rS{p:Prop}(h:p:=by
 first
  | have q1:(x.op == 1)=true:=by simpa using h
  | have q1:(x.op == 1)=false:=by simp;omega
 first
  | have cB:(x.op == 2)=true:=by simpa using h
  | have cB:(x.op == 2)=false:=by simp;omega
 first
  | have cv:(x.op == 3)=true:=by simpa using h
  | have cv:(x.op == 3)=false:=by simp;omega
 first
  | have cF:(x.op == 4)=true:=by simpa using h
  | have cF:(x.op == 4)=false:=by simp;omega
 first
  | have q5:(x.op == 5)=true:=by simpa using h
  | have q5:(x.op == 5)=false:=by simp;omega
 first
  | have dg:(x.op == 6)=true:=by simpa using h
  | have dg:(x.op == 6)=false:=by simp;omega
 first
  | have q7:(x.op == 7)=true:=by simpa using h
  | have q7:(x.op == 7)=false:=by simp;omega
 exact rT
 ):p:=h
theorem Gb{p:Prop}(h:p:=by
 refine pV ?_
 iterate 4 refine pf ?_
 refine aK rfl (fun K hK=>?_);go_simp;refine(jz ⟨s,wb,sA,bQ,a7,sl,GA,gn,gc,MA,mn,mc,FA,fn,fc,M,F,ar⟩ L bc o a8 u wr.drew ((bL.1.ak a1 Kn.drew).wr au.1) ((Sl.cO au.2.2.2.2.1 (bL.1.ak a1 Kn.drew).fr).mono fun b O=>⟨O.1,fun h=>O.2 (.inl h)⟩) ab).mono ?_;rintro e aN ⟨x,cl,ck,ct,rfl,hx,S,bY,h,he⟩;simp only at h he;have t:Fr (fun b=>b=s) wr aN:=Fr.aO he;have an:=bL.2.2.on t ab;have aX:=iE (bL.1.next a1 h t) an hx S bY t.size (bL.2.1.on t ac);refine dW hK (he) ?_;clear hK K;clear an hx S bY h he t a0 ap ak a6 am aI d0 ag aR;refine aq rfl (fun K hK=>?_);go_simp
 first
  | rw[j.2,show IntKind.i64.wrap ((i:Nat):Int)=((i:Nat):Int) from IntWalk.i64_in _ ab]
  | rw[j.2]
 refine(cc.2.2 L ab i 3 bc (T++decls ls) o a8 u aY ps QA ca qc bI aN ab ab (aX.1.wr au.1) (Sl.cO au.2.2.2.2.1 aX.1.fr) ab (fun k aj=>cc.2.1 k ab) (Sl.cO au.2.2.1 aX.1.fr) bm).mono ?_;rintro e aO ⟨v,aU,m,a3,bS,rfl,aF,bB,b1,U,I⟩;have P:¬(J.heap.size=s∨J.heap.size=wb):=ab;have l:=aX.2.1.on I P;have a9:=aX.2.2.2.2.2.2.on I (fun h=>by rcases h with h|h<;>(simp only at h;omega));have aS:aU≤L:=aF.le;have bu:=iE (aX.1.GI U I) l aF bB b1 I a9;clear aF bB b1 U I a9;obtain⟨d0,ag,aR⟩:=l.two;clear l;refine eD hK ?_;clear hK K;refine aq rfl (fun K hK=>?_);go_simp;refine eD hK ?_;clear hK K;refine pf ?_;refine aq rfl (fun K hK=>?_);go_simp;refine eD hK ?_;clear hK K;refine pf ?_;refine aq rfl (fun K hK=>?_);go_simp;refine eD hK ?_;clear hK K;refine aA ?_;generalize hX:World.setCell _ _ _=X;have aD:Fr (fun b=>b=J.heap.size) aO X:=hX▸((((((Fr.refl (fun b=>b=J.heap.size) aO).setCell (.inl rfl) _).setCell (.inl rfl) _).setCell (.inl rfl) _).setCell (.inl rfl) _).setCell (.inl rfl) _).setCell (.inl rfl) _;exact zd
 ):p:=h
theorem uN{p:Prop}(h:p:=by
 have aX:=ai (ax.2.2.2.1.ak bM.2.2) (ax.1.trans bM.2.2);have cw:=bM.2.2.size;obtain⟨bv,bd,be⟩:=aX.1.two;obtain⟨e0,a5,aZ⟩:=bM.2.1.two;go_wp2_with(fail);generalize hX:World.setCell _ _ _=Z;obtain⟨bC,bl,bn⟩:=cb (w:=w) [.slice c9 cg bw,.slice cL l aO,.slice (some ⟨O,0,none⟩) a3 G,.int .i64 s.fault] (by rfl) aX.1 aX.2 ab hX;have ba:=ai bl bn;clear hX bl bn bv bd be e0 a5 aZ;obtain⟨bv,bd,be⟩:=bC.two;refine Km (v:=.tuple #[.agg #[.slice c9 cg bw,.slice cL l aO,.slice (some ⟨O,0,none⟩) a3 G,.int .i64 s.fault],.bool true]) (by simp[results,Tryz.results25,go_sem,bv]) rfl ?_;exact uO
 ):p:=h
theorem uP{p:Prop}(h:p:=by
 go_enter func111,ntmps111;go_upto_region 8 with(fail);generalize bg:World.alloc _ _=W;have aF:Ext w W:=bg▸(Kn.alloc _).alloc _;have bB:af W w.heap.size 192 (lV 0 ⟨#[]⟩ ⟨#[]⟩).toArray:=bg▸(Ko).alloc _;have a8:af W (w.heap.size+1) 192 (lV 0 ⟨#[]⟩ ⟨#[]⟩).toArray:=bg▸af.ct _ _ _ (by simp);have au:Kt (yK w W g A n c T k deep (lV 0 ⟨#[]⟩ ⟨#[]⟩)):=ad ⟨H.ak aF,aF.mono fun _ h=>h.elim,bB,a8⟩;clear bg aF bB a8;go_wp2_with(fail);refine(show Calls prog 74 #[.pointer (some ⟨g,0,none⟩),.string ⟨#[118,97,114]⟩] W _ from dj [118,97,114] g A n c T k deep W au.ps false (by first|exact ce.1|exact ga ce.1 (by decide)) (fun h=>by first|omega|cases h)).mono ?_;rintro e aN ⟨rfl,aY,hF⟩;have H1:=ad (au.on bN (show bY aN g A n c T (k) deep from by simpa using aY) hF);clear aY hF;clear au;go_wp2_with(fail);exact uQ
 ):p:=h
theorem mO{p:Prop}(h:p:=by
 go_upto_region 1 with(fail);generalize bg:World.alloc _ _=W;have aF:Ext w W:=bg▸(Kn.alloc _).alloc _;have bG:af W w.heap.size 26 #[.slice GA gn gc,.slice MA mn mc,.slice PA pn pc,.int .i64 u.main]:=bg▸(Ko).alloc _;have aY:af W (w.heap.size+1) 30 #[.slice bp bQ a7,.slice TA tn tc,.slice HA hn hc,.int .i64 s.fault]:=bg▸af.ct _ _ _ (by simp);exact mP
 ):p:=h
theorem zf{p:Prop}(h:p:=by
 rintro e aN ⟨rfl,ar⟩;refine dW hK (ar) ?_;clear hK K;refine bf (v:=?_) rfl (by rfl) (fun V=>?_) ?_;rotate_left
 ·go_simp;exact dR
 try simp only[PU]
 refine bf (v:=?_) rfl (by rfl) (fun V=>?_) ?_;rotate_left
 ·go_simp;exact dR
 try simp only[PU]
 exact zg
 ):p:=h
theorem zh{p:Prop}(h:p:=by
 have bg:=bL.2.2.lt;have aa:∀b,wr.heap.size≤b→¬(b=s∨b=wb):=fun b O h=>ab;have di:J.heap.size≤aN.heap.size:=by have:=aX.2.2.2.2.2.1;omega
 have bj:Sl X (fresh J X) cl ck (x.args.map bb):=(aX.2.2.2.2.1.aj fun b O=>(aD.block b (oR O.2 bu.2.2.2.2.2.1.size) (by have:=O.1;have:wr.drew.heap.size=wr.heap.size:=rfl;omega)).trans (bu.2.2.2.2.2.1.block b O.2 (aa b O.1))).mono fun b O=>⟨by have:=O.1;have:wr.drew.heap.size=wr.heap.size:=rfl;omega,by have:=O.2;have:=bu.2.2.2.2.2.1.size;have:=aD.size;omega⟩
 have cF:Sl X (fresh J X) m a3 (cP (.eA v)):=by
  exact Ho
 have bi:Sl X (fun b=>J.heap.size<b∧b<X.heap.size) cl ck (x.args.map bb):=(aX.2.2.2.2.1.aj fun b O=>(aD.block b (oR O.2 bu.2.2.2.2.2.1.size) (by have:=O.1;have:wr.drew.heap.size=wr.heap.size:=rfl;omega)).trans (bu.2.2.2.2.2.1.block b O.2 (aa b O.1))).mono fun b O=>⟨by have:=O.1;have:wr.drew.heap.size=wr.heap.size:=rfl;omega,by have:=O.2;have:=bu.2.2.2.2.2.1.size;have:=aD.size;omega⟩
 have ah:Sl X (fun b=>J.heap.size<b∧b<X.heap.size) m a3 (cP (.eA v)):=by
  exact Hn
 have ay:=ai bi ah;clear bi ah;have H:=bu.1.fresh au.1 aD fun b O=>ab;have bk:=bu.2.2.2.2.2.2.on aD ab;have aP:=dA H bh bk bj cF;clear hX d0 ag aR aD bh H bk bj cF;exact zi
 ):p:=h
theorem rU{p:Prop}(h:p:=by
 obtain⟨bu,cZ,aD,fs,bm,ch⟩:=h.th;have hs:=bF.ok aY;obtain⟨GA,gn,gc,MA,mn,mc,PA,pn,pc⟩:=p;obtain⟨bp,bQ,a7,TA,tn,tc,HA,hn,hc⟩:=q;have Gu:hn=s.threads.length:=by have:=hs.at_.h.1;simpa using this.symm
 have cf:bQ=s.globals.length:=by have:=hs.at_.g.1;simpa using this.symm
 have DL:tn=s.table.length:=by have:=hs.at_.t.1;simpa using this.symm
 have cY:hn≤1000:=by have:=h.sm.h;omega
 have cW:=h.pc;exact rV
 ):p:=h
theorem zj{p:Prop}(h:p:=by
 rintro r aN ⟨rfl,O⟩;by_cases hm:0≤br X e
 case neg=>
  have aX:=ad (show free X T e th=false from pw ab);have S:br X e<0:=ab;clear hm;exact s9
 obtain⟨k,m,hd,rfl,aj,d,f,P,ct⟩:=hT.at_ hm;rw[P];have J:k<n2:=by have:=ht.1;omega
 have fJ:m<n:=by have:=h.1;omega
 by_cases h0:0≤th
 case neg=>
  have aX:=ad (show free X T k th=false from pw ab);have j:th<0:=ab;clear h0 d f P;exact s9
 obtain⟨b,o,G,rfl,an,hx,c0,c1⟩:=(ht.fS O).hold J;obtain rfl:hd=G:=by rw[d] at hx;injection hx
 obtain⟨R,aA,mx,rfl,l,g,d0,d1,d2⟩:=(h.fS O).HX fJ;have bv:=hT.bound hd (JT d);have b0:ED X m=mx.re:=by unfold ED;rw[Kb,g];rfl
 have H:free X T k th=(hd.owner == 0 || (hd.owner == th+1 && mx.re)):=by
  exact Ga
 have aX:=ad H;clear H hx g d f P hm b0;by_cases a8:hd.owner=0
 ·have bj:=ad a8;exact F9
 have cP:(hd.owner == 0)=false:=by simpa using a8
 exact zk
 ):p:=h
theorem g6{p:Prop}(h:p:=by
 go_upto_region 1 with(fail);generalize bg:World.alloc _ _=W;have aF:Ext w W:=bg▸(Kn.alloc _).alloc _;exact g7
 ):p:=h
theorem zl{p:Prop}(h:p:=by
 refine tX (fun b=>b=J.heap.size+1) [14] (.free 0 (.free 1 (.free 2 (.free 6 (.free 7 (.free 8 (.held 9 (.pick [3,10,13] (fun i=>bif i == 3 then .held 4 (.free 5 (.pick [10,13] (fun i=>bif i == 10 then .free 11 (.free 12 (.pick [13] (fun _=>.pick [14] (fun _=>.stop)))) else .pick [10] (fun _=>.free 11 (.free 12 (.pick [14] (fun _=>.stop))))))) else bif i == 10 then .free 11 (.pick [3,13] (fun i=>bif i == 3 then .held 4 (.free 5 (.free 12 (.pick [13] (fun _=>.pick [14] (fun _=>.stop))))) else .pick [3] (fun _=>.held 4 (.free 5 (.free 12 (.pick [14] (fun _=>.stop))))))) else .pick [3,10] (fun i=>bif i == 3 then .held 4 (.free 5 (.pick [10] (fun _=>.free 11 (.free 12 (.pick [14] (fun _=>.stop)))))) else .free 11 (.pick [3] (fun _=>.held 4 (.free 5 (.free 12 (.pick [14] (fun _=>.stop)))))))))))))))) ?_
 iterate 6 refine tf ?_
 refine n8 ?_;clear a0 ap ak;exact zm
 ):p:=h
theorem zn{p:Prop}(h:p:=by
 go_upto_region 1 with(fail);generalize bg:World.alloc _ _=W;have aF:Ext w W:=bg▸((Kn.alloc _).alloc _).alloc _;have bG:af W w.heap.size 26 #[.slice GA gn gc,.slice MA mn mc,.slice PA pn pc,.int .i64 u.main]:=bg▸((Ko).alloc _).alloc _;have aY:af W (w.heap.size+1) 30 #[.slice bp bQ a7,.slice TA tn tc,.slice (some ⟨O,a8,none⟩) hn hc,.int .i64 s.fault]:=bg▸(af.ct _ _ _ (by simp)).alloc _;have aU:af W (w.heap.size+2) 59 #[.bool pl.param,.int .i64 pl.index,.slice QA qm qc]:=bg▸af.ct _ _ _ (by simp);have ax:=iE aF bG aY aU (hu.on aF) (hs.on aF) (D.on bm (Fr.ext aF));have x:=hT.on aF;obtain⟨a0,ap,ak⟩:=bG.two;obtain⟨a6,am,aI⟩:=aY.two;obtain⟨d0,ag,aR⟩:=aU.two;have L:=ad x;clear bg aF bG aY aU x hT hu hs bm ac hS hU ht hp hx hF y r;go_wp2_with(fail);exact zo
 ):p:=h
theorem lz{p:Prop}(h:p:=by
 go_upto_region 1 with(fail);generalize bg:World.alloc _ _=W;have aF:Ext w W:=bg▸((Kn.alloc _).alloc _).alloc _;exact lA
 ):p:=h
theorem lB{p:Prop}(h:p:=by
 refine eD hK ?_;clear hK K;refine pf ?_;refine aq rfl (fun K hK=>?_);go_simp;refine eD hK ?_;clear hK K;refine aA ?_;exact jD
 ):p:=h
theorem fJ{p:Prop}(h:p:=by
 refine aq rfl (fun K hK=>?_);go_simp;refine eD hK ?_;clear hK K;refine aA ?_;exact fK
 ):p:=h
theorem zp{p:Prop}(h:p:=by
 have bG:af W w.heap.size 26 #[.slice GA gn gc,.slice MA mn mc,.slice (some ⟨pb,gL,none⟩) pn pc,.int .i64 u.main]:=bg▸((Ko).alloc _).alloc _;have aY:af W (w.heap.size+1) 30 #[.slice bp bQ a7,.slice TA tn tc,.slice (some ⟨O,a8,none⟩) hn hc,.int .i64 s.fault]:=bg▸(af.ct _ _ _ (by simp)).alloc _;have b8:af W (w.heap.size+2) 62 #[.int .i64 0,.int .i64 0,.bool false,.int .i64 0,.int .i64 0,.string ⟨#[]⟩,.slice none 0 0,.bool false,.int .i64 0,.slice none 0 0,.slice none 0 0,.slice none 0 0]:=bg▸af.ct _ _ _ (by simp);have ax:=iE aF bG aY b8 bD cW aV;have L:=ad (hT.on aF);exact zq
 ):p:=h
theorem fL{p:Prop}(h:p:=by
 obtain⟨GA,gn,gc,MA,mn,mc,PA,pn,pc⟩:=p;obtain⟨bp,bQ,a7,TA,tn,tc,HA,hn,hc⟩:=q;exact fM
 ):p:=h
theorem oN{p:Prop}(h:p:=by
 obtain⟨I,bn,az,e,b7,hs⟩:=aV.1 aU;simp only[List.cons.injEq,Value.int.injEq,Value.string.injEq,Value.slice.injEq,and_true,true_and] at e;obtain⟨rfl,rfl,rfl,rfl,rfl,rfl⟩:=e;exact oO
 ):p:=h
theorem zr{p:Prop}(h:p:=by
 have ax:=bw aF bG aY (cn.1.on aF);have cA:=aY.lt;have hl:(cL u s).length=hn:=by rw[iL];exact cn.2
 have bK:=ai hl (vp cn.1.hS);obtain⟨a0,ap,ak⟩:=bG.two;obtain⟨a6,am,aI⟩:=aY.two;clear bg aF bG aY hl;go_wp2_with(fail);refine(r6 u s N W ⟨GA,gn,gc,MA,mn,mc,PA,pn,pc⟩ ⟨bp,bQ,a7,TA,tn,tc,HA,hn,hc⟩ ax.2.2.2).mono ?_;rintro e aN ⟨A,c,rfl,_,bT,aG⟩;dsimp only at bT ⊢;have H1:=ai bT (ax.1.trans aG);generalize cL u s=l at *;clear a0 ap ak a6 am aI bT aG;exact zs
 ):p:=h
theorem rW{p:Prop}(h:p:=by
 have g:=ad h;have ce:=dA bu bm cf DL Gu;have dp:t<(hn:Int):=ab;have cc:=aQ hu hs bF;obtain⟨k,c5⟩:=aM aY aE;clear h bu aD bm cf DL Gu hu hs bF aY aE;dsimp only[UV.val,SV.val];exact rX
 ):p:=h
theorem zt{p:Prop}(h:p:=by
 have aF:Ext w (w.alloc (.cells #[.bool false,.int .i64 i,.slice (some ⟨b,o,none⟩) 1 pc] 59)):=Kn.alloc _;have d:af (w.alloc (.cells #[.bool false,.int .i64 i,.slice (some ⟨b,o,none⟩) 1 pc] 59)) w.heap.size 59 #[.bool false,.int .i64 i,.slice (some ⟨b,o,none⟩) 1 pc]:=Ko;obtain⟨a2,F,cY,hm,aX,e0,e1,e2,e3⟩:=h;obtain⟨hh,bB,bn,rfl,bN,S,f0,f1,f2⟩:=F.Ij cY;have P:bn=m:=by rw[hm] at S;injection S with h;exact h.symm
 subst P;exact zu
 ):p:=h
theorem uR{p:Prop}(h:p:=by
 have d0:=Z 0 _ rfl;have d1:=Z 1 _ rfl;have d2:=Z 2 _ rfl;have d3:=Z 3 _ rfl;have d4:=Z 4 _ rfl;have d5:=Z 5 _ rfl;have d6:=Z 6 _ rfl;have d7:=Z 7 _ rfl;have d8:=Z 8 _ rfl;have d9:=Z 9 _ rfl;have d10:=Z 10 _ rfl;simp only[J0] at d0;exact uS
 ):p:=h
theorem zv{p:Prop}(h:p:=by
 generalize hV:World.alloc _ _=V;have t:Ext wr V:=hV▸Kn.alloc _;have br:=ad (a2.trans t);have G:=ad (bs.ak t);have hC:af V wr.heap.size 143 #[.string f.name,.slice PA pn pc,.slice f0 bn eL]:=hV▸Ko;have bL:=ad hC;have gG:=ad (ch.on (Fr.ext t));have dm:=ad (bv.on (Fr.ext t));clear hV a0 ap ak c0 c1 c2 aW a2 bs t ch bv;obtain⟨a0,ap,ak⟩:=hC.two;clear hC;exact zw
 ):p:=h
theorem zx{p:Prop}(h:p:=by
 clear hX d0 ag aR HA;go_wp2_with(fail);refine(show Calls prog 110 #[.pointer (some ⟨g,0,none⟩),.string ⟨#[59]⟩] X _ from mz [59] g A n c T (k+1+1) deep X aP.ps ce.2.2.2.2 ab).mono ?_;rintro e b1 ⟨rfl,aY,hF⟩;have ba:=ad (aP.on bN aY hF);clear aY hF aP;obtain⟨d0,ag,aR⟩:=ba.s.two;obtain⟨bv,bd,be⟩:=ba.r.two;simp only[lV] at d0;go_wp2_with(fail);generalize hX:World.setCell _ _ _=V;exact zy
 ):p:=h
theorem zz{p:Prop}(h:p:=by
 clear bi;have cS:=bA.size;go_wp2_with(fail);refine(oB P s ⟨bp,bQ,a7,TA,tn,tc,HA,hn,hc⟩ z ci (cc.2.2.FQ k.o (ax.1.trans bA.o)) (fun b O=>JR (k.o b O) (ax.1.trans bA.o).size)).mono ?_;rintro e cx ⟨⟨da,bR,bW,cq,cd,b6,bL,co,bJ⟩,rfl,b9,a4⟩;have f2:=a4.size;have cm:=ad b9;have aX:=ai (ax.2.2.2.1.ak (bA.trans a4)) ((ax.1.trans bA.o).trans a4);exact zA
 ):p:=h
theorem zB{p:Prop}(h:p:=by
 obtain⟨n,nm,b,o,c,br,Z,ax,E,cj,cr,bm,aa,T,O,hx,a4,e0,e1,e2,e3,bs,cG,bG,e7⟩:=h.rep;injection T with h0 T;injection T with ae T;injection T with aC T;injection T with aT T;subst h0 ae aC aT;clear T;have aE:=h.ok.1;have aK:lr w G L ng nl g l x [br,Z,ax,E]:=⟨h.gs,h.ls,h.ok.2.1,hx⟩
 have j:lr w G L ng nl g l y [cj,cr,bm,aa]:=⟨h.gs,h.ls,h.ok.2.2,a4⟩
 exact zC
 ):p:=h
theorem uT{p:Prop}(h:p:=by
 have aJ:=h.g;have hm:=h.m;have aD:=h.f;have di:p.globals.length=gn:=by rw[←aJ.1,JU]
 have lm:p.ae.length=mn:=by rw[←hm.1,JU]
 have lf:p.funcs.length=fn:=by rw[←aD.1,JU]
 exact uU
 ):p:=h
theorem Gc{p:Prop}(h:p:=by
 generalize b6:World.setCell _ _ _=Y;obtain⟨bt,bA,bk⟩:=dL (M:=fun b=>b=s) [.int .i64 x.aU,.int .i64 x.numOf,.string x.a1,.slice cl ck ct] (by rfl) bs.o aE.2 (JQ _) b6;obtain⟨bv,bd,be⟩:=bt.two;exact zD
 ):p:=h
theorem zE{p:Prop}(h:p:=by
 refine(show Calls prog 74 #[.pointer (some ⟨g,0,none⟩),.string ⟨#[103,111]⟩] aN _ from dj [103,111] g A n c T k deep aN H1.ps false (by first|exact ce.1|exact ga ce.1 (by decide)) (fun h=>by first|omega|cases h)).mono ?_;rintro e aO ⟨rfl,aY,hF⟩;have aE:=ad (H1.on bN (show bY aO g A n c T (k) deep from by simpa using aY) hF);clear aY hF;clear H1;go_wp2_with(fail);exact zF
 ):p:=h
theorem zG{p:Prop}(h:p:=by
 have a2:=ad (show ev g l (.bin op x y)=if (ev g l x).2≠0 then (0,(ev g l x).2) else if op=16∧(ev g l x).1=0 then (0,0) else if op=17∧(ev g l x).1≠0 then (1,0) else if (ev g l y).2≠0 then (0,(ev g l y).2) else if op=16∨op=17 then (eV ((ev g l y).1 != 0),0) else arith op (ev g l x).1 (ev g l y).1 from rfl);generalize ev g l x=r1 at *;obtain⟨v1,f1⟩:=r1;exact zH
 ):p:=h
theorem g8{p:Prop}(h:p:=by
 refine ao ?_;refine bS rfl (fun K hK=>?_) rfl;go_simp;refine eD hK ?_;clear hK K;exact gq
 ):p:=h
theorem jE{p:Prop}(h:p:=by
 go_upto_region 1 with(fail);generalize bg:World.alloc _ _=W;have aF:Ext w W:=bg▸Kn.alloc _;exact jF
 ):p:=h
theorem zI{p:Prop}(h:p:=by
 refine tX (fun _=>False) [6,11] (.free 0 (.free 1 (.free 2 (.held 3 (.free 4 (.held 5 (.pick [6,10] (fun i=>bif i == 6 then .free 7 (.free 8 (.free 9 (.pick [10] (fun _=>.pick [11] (fun _=>.free 12 (.stop)))))) else .pick [6] (fun _=>.free 7 (.free 8 (.free 9 (.pick [11] (fun _=>.free 12 (.stop)))))))))))))) ?_
 iterate 3 refine tf ?_
 refine th ?_;refine tf ?_;refine th ?_;exact zJ
 ):p:=h
theorem uV{p:Prop}(h:p:=by
 refine eD hK ?_;clear hK K
 iterate 3 refine tf ?_
 refine ao ?_;refine eZ ?_;generalize hV:World.alloc _ _=V;have aL:af V aN.heap.size 153 #[.string ⟨#[]⟩,.int .i64 0,.int .i64 0]:=hV▸Ko;exact uW
 ):p:=h
theorem zK{p:Prop}(h:p:=by
 have k:=fun bi=>Cv (s:=s) (nl:=Q.locals) (nk:=f.aw.length) aP.1 aP.2.2.1 (Int.le_refl _) aP.2.2.2.2.2 j bi;have aD:=xK (u:=u) (s:=s) (f:=f) j;have o:=pd (u:=u) (s:=s) (f:=f) j;generalize cI u s f pl=R at *;obtain⟨v,z⟩:=R;simp only at k aD o;have bu:=aQ k aD o;exact zL
 ):p:=h
theorem uX{p:Prop}(h:p:=by
 obtain⟨cC,cQ,cD,rfl,co,cv⟩:=aV.1 bJ;have c0:=Z 0 _ rfl;have c1:=Z 1 _ rfl;have c2:=Z 2 _ rfl;have c3:=Z 3 _ rfl;simp only[J0] at c0;have aW:b<wr.heap.size:=O;exact uY
 ):p:=h
theorem zM{p:Prop}(h:p:=by
 go_upto_region 7 with(fail);generalize bg:World.alloc wr _=W;have l:Ext wr W:=bg▸Kn.alloc _;have aL:af W wr.heap.size 192 #[.int .i64 s.kind,.string s.name,.int .i64 eo,.int .i64 en,.string es,.slice EA em ec,.string rs,.slice cj a9 rc,.slice ce n1 c1,.slice A2 n2 c2,.slice cf n3 c3]:=bg▸Ko;exact zN
 ):p:=h
theorem zO{p:Prop}(h:p:=by
 have bG:af W w.heap.size 57 #[.int .i64 x.aU,.int .i64 x.numOf,.string x.a1,.slice A m c]:=bg▸(Ko).alloc _;have a1:af W (w.heap.size+1) 57 #[.int .i64 0,.int .i64 0,.string ⟨#[]⟩,.slice none 0 0]:=bg▸af.ct _ _ _ (by simp);have cA:W.heap.size=w.heap.size+2:=by rw[←bg];simp
 clear bg;exact zP
 ):p:=h
theorem oP{p:Prop}(h:p:=by
 try refine hN _ _ ?_
 unfold lu;refine⟨o,a8,u,bs,on,bG,?_⟩
 iterate 240 apply Exists.intro
 refine⟨?_,rfl⟩;exact oQ
 ):p:=h
theorem zQ{p:Prop}(h:p:=by
 try simp only[PU]
 refine c9 rfl (by rfl) ?_
 try simp only[PU]
 refine c9 rfl (by rfl) ?_
 try simp only[PU]
 refine c9 rfl (by rfl) ?_
 try simp only[PU]
 refine hW rfl (by rfl) ?_
 try simp only[PU]
 refine c9 rfl (by rfl) ?_
 try simp only[PU]
 refine hW rfl (by rfl) ?_
 try simp only[PU]
 exact zR
 ):p:=h
theorem zS{p:Prop}(h:p:=by
 have aY:af W (w.heap.size+1) 30 #[.slice bp bQ a7,.slice TA tn tc,.slice HA hn hc,.int .i64 s.fault]:=bg▸(af.ct _ _ _ (by simp)).alloc _;have b8:af W (w.heap.size+2) 62 qt:=bg▸af.ct _ _ _ (by simp);have ax:=ai aF b8;obtain⟨a6,am,aI⟩:=aY.two;clear bg aF aY b8;go_wp2_with(fail);exact zT
 ):p:=h
theorem zU{p:Prop}(h:p:=by
 obtain⟨n,nm,b,o,c,br,Z,ax,E,T,O,hx,e0,e1,e2,e3⟩:=h.rep;injection T with h0 T;injection T with ae T;injection T with aC T;injection T with aT T;subst h0 ae aC aT;clear T;have aE:=h.ok.1;have aK:lr w G L ng nl g l x [br,Z,ax,E]:=⟨h.gs,h.ls,h.ok.2,hx⟩
 exact zV
 ):p:=h
theorem uZ{p:Prop}(h:p:=by
 unfold gu at h;rw[bu,eX] at h;obtain⟨y,rfl,h⟩:=h;obtain⟨x,bm,rfl,hx,a4⟩:=dq.1 h;unfold fE at hx;rw[bu,b9] at hx;obtain⟨z,rfl,hx⟩:=hx;exact u0
 ):p:=h
theorem zW{p:Prop}(h:p:=by
 have cz:=a3 0 _ rfl;simp only[J0] at cz;have b5:=a3 1 _ rfl;have bE:=a3 2 _ rfl;have cx:=a3 3 _ rfl;have H:=a3 4 _ rfl;have bR:=a3 5 _ rfl;have bY:=a3 6 _ rfl;have cP:=a3 7 _ rfl;have cQ:=a3 8 _ rfl;have cR:=a3 9 _ rfl;have cG:=a3 10 _ rfl;have cH:=a3 11 _ rfl;exact zX
 ):p:=h
theorem rY{p:Prop}(h:p:=by
 have cy:gn≤16:=by have:=hp.pK;omega
 have co:mn≤12:=by have:=hp.x9;omega
 have ds:fn≤16:=by have:=hp.Ep;omega
 exact rZ
 ):p:=h
theorem zY{p:Prop}(h:p:=by
 obtain⟨hM,aD,hG⟩:=h.own hX;obtain⟨GA,gn,gc,MA,mn,mc,FA,fn,fc,aL,b5,bE,cx,H⟩:=h.blk;refine⟨⟨⟨GA,gn,gc,MA,mn,mc,FA,fn,fc,?_,b5,bE,cx.cG hM,H.cG hM⟩,⟨h.base.1,J7 h.base.2 hM.fr.size⟩,⟨h.names.1,h.names.2.cG hM⟩,hG⟩,hM⟩;exact zZ
 ):p:=h
theorem z0{p:Prop}(h:p:=by
 have di:aN.heap.size=w.heap.size+1:=by rw[←aX];simp
 have aG:Ext w aN:=aX▸Kn.alloc _;have A:af aN w.heap.size 100 #[c0,c1,c2,c3]:=aX▸Ko;have bz:=aD.size;have co:X.heap.size=aO.heap.size:=by rw[←hX];simp[World.setCell]
 exact z1
 ):p:=h
theorem z2{p:Prop}(h:p:=by
 rintro e aN ⟨rfl,aY,hF⟩;have H1:=aQ aY (Fr.trans (ax.2.1.mono fun _ h=>h.elim) hF) (ax.2.2.on hF ab);have aX:w.heap.size<aN.heap.size:=H1.2.2.lt;clear aY hF;go_upto_region 2 with(fail);generalize hX:World.alloc _ _=X;have aF:Ext aN X:=hX▸Kn.alloc _;exact z3
 ):p:=h
theorem z4{p:Prop}(h:p:=by
 have cd:af W w.heap.size 26 #[.slice none 0 0,.slice none 0 0,.slice none 0 0,.int .i64 0]:=bg▸(Ko).alloc _;have b3:af W (w.heap.size+1) 30 #[.slice none 0 0,.slice none 0 0,.slice none 0 0,.int .i64 0]:=bg▸af.ct _ _ _ (by simp);have cA:=b3.lt;exact z5
 ):p:=h
theorem z6{p:Prop}(h:p:=by
 have bl:=ad (show ev g l (.bin op x y)=if (ev g l y).2≠0 then (0,(ev g l y).2) else if op=16∨op=17 then (eV ((ev g l y).1 != 0),0) else arith op v1 (ev g l y).1 by rw[a2.o];simp only[bK.o,ne_eq,not_true_eq_false,if_false];rw[if_neg aV,if_neg a8]);exact z7
 ):p:=h
theorem z8{p:Prop}(h:p:=by
 have av:(0:Int)<(d:Int):=ab;obtain⟨i,a2⟩:∃i,d=i+1:=⟨d - 1,ab⟩
 have aQ:(d:Int) - 1=((i:Nat):Int):=ab;have bt:i≤1:=ab;have j:=ai a2 aQ;clear a2 aQ;have gK:¬wb=s:=ab;have ac:¬aB=s:=ab;exact z9
 ):p:=h
theorem Aa{p:Prop}(h:p:=by
 have aL:af W w.heap.size 57 #[.int .i64 0,.int .i64 0,.string ⟨#[]⟩,.slice none 0 0]:=bg▸af.ct _ _ _ rfl;have ax:=bw (H.1.ak aF) (H.2.ak aF) (aF.mono (M':=fun b=>b=s) fun _ h=>h.elim) aL;obtain⟨a0,ap,ak⟩:=ax.1.blk.two;clear bg aF aL H;exact Ab
 ):p:=h
theorem Ac{p:Prop}(h:p:=by
 have ba:=ad bl;clear hX bl bn bv bd be a6 am aI;obtain⟨bv,bd,be⟩:=bC.two;refine Km (v:=.tuple #[.agg #[.slice bp bQ a7,.slice TA tn tc,.slice HA hn hc,.int .i64 s.fault],.bool false]) (by simp[results,Tryz.results25,go_sem,bv]) rfl ?_;exact Ad
 ):p:=h
theorem u1{p:Prop}(h:p:=by
 have a:br.length=fs.length*4:=by rw[D.gU _ _ h.fr,D.gG (z:=4) (fun d hd=>by obtain⟨x,_,rfl⟩:=Ke.1 hd;rfl),JU]
 exact u2
 ):p:=h
theorem Ae{p:Prop}(h:p:=by
 obtain⟨O,a8,b2,cE,n,fc,IA,i,ic,bj,l,lc,e,hT⟩:=hs.at_.top ac ht;simp only at e;subst e;obtain⟨hF,_,_⟩:=hS.top ht;have y:=hF.vy hp;have r:cJ (bh u) Q.locals f.aw.length pl:=by rw[y];exact hx
 rw[jG ht];exact Af
 ):p:=h
theorem r0{p:Prop}(h:p:=by
 have b8:af W (w.heap.size+1) 30 #[.slice none 0 0,.slice none 0 0,.slice none 0 0,.int .i64 0]:=bg▸af.ct _ _ _ (by simp);exact r2
 ):p:=h
theorem Ag{p:Prop}(h:p:=by
 have aJ:J.grownBy ac (Value.slice A n c).ownBlock:=⟨cx.os,cx.tape,cx.output,by have:=cx.size;simp at this;omega,fun k aj a1=>(cx.block k (by simp;omega) a1).trans (Below.heap_alloc J _ k aj)⟩
 obtain⟨I,az,rfl,hc,_⟩:=bs bE;exact Ah
 ):p:=h
theorem Ai{p:Prop}(h:p:=by
 obtain⟨O,a8,b2,cE,n,fc,IA,i,ic,bj,l,lc,e,hT⟩:=hs.at_.top ac ht;simp only at e;subst e;obtain⟨pb,gL,R,co,bZ,bO,v,e,eI,gH,cW,bS,cZ,bD,aV⟩:=hu.at_.code hp hx p0 cL;simp only at e;subst e;simp only at gH;exact Aj
 ):p:=h
theorem Ak{p:Prop}(h:p:=by
 generalize hV:World.alloc _ _=V;have bf:Ext aN V:=hV▸Kn.alloc _;have m:af V aN.heap.size 100 #[.int .i64 f.proc,.int .i64 f.pc,.slice IA i ic,.slice bj l lc]:=hV▸Ko;have aS:Ext W V:=br.trans bf;exact Al
 ):p:=h
theorem Am{p:Prop}(h:p:=by
 have d0:=(f.cell (p:=⟨b,o,none⟩) O).trans e0;have d1:=(f.cell (p:=⟨b,o+1,none⟩) O).trans e1;have d2:=(f.cell (p:=⟨b,o+2,none⟩) O).trans e2;have d3:=(f.cell (p:=⟨b,o+3,none⟩) O).trans e3;exact An
 ):p:=h
theorem Ao{p:Prop}(h:p:=by
 generalize hV:World.alloc _ _=V;have t:Ext wr V:=hV▸Kn.alloc _;have br:=ad (a2.trans t);have G:=ad (bs.ak t);have hC:af V wr.heap.size 125 #[.string nm,.bool re,.int .i64 z]:=hV▸Ko;exact Ap
 ):p:=h
theorem Aq{p:Prop}(h:p:=by
 go_wp2;refine eE (fun _=>False) [(0,3),(1,3),(2,3),(3,3),(4,0),(8,3),(9,0),(10,3),(11,3),(14,3),(5,1),(6,3),(7,3),(12,2),(13,3),(15,3),(16,3),(17,3)] ?_
 iterate 2 refine pf ?_
 refine bf (v:=?_) rfl (by rfl) (fun V=>?_) ?_;rotate_left
 ·go_simp;exact dR
 try simp only[PU]
 refine pf ?_;refine ph ?_;refine pf ?_;refine ph ?_;refine pf ?_;refine bf (v:=?_) rfl (by rfl) (fun V=>?_) ?_;rotate_left
 ·go_simp;exact dR
 try simp only[PU]
 refine pf ?_;refine aK rfl (fun K hK=>?_);go_simp;refine(aP.o _ _ _ _ _ _ _ (D.on a8.o (Fr.ext Kn.drew)) f.o).mono ?_;rintro e aN ⟨rfl,ar⟩;refine dW hK (ar) ?_;clear hK K;refine bf (v:=?_) rfl (by rfl) (fun V=>?_) ?_;rotate_left
 ·go_simp;exact dR
 try simp only[PU]
 refine bf (v:=?_) rfl (by rfl) (fun V=>?_) ?_;rotate_left
 ·go_simp;exact dR
 try simp only[PU]
 refine aq rfl (fun K hK=>?_);go_simp;rw[x.o];refine((show g0 th from av.th) (t+1) A2 n2 c2 _ U.o (ah.on (Fr.ext (Fr.aO ar))) H.o).mono ?_;rintro e aO ⟨rfl,bI⟩;refine eD hK ?_;clear hK K;refine bf (v:=?_) rfl (by rfl) (fun V=>?_) ?_;rotate_left
 ·go_simp;exact dR
 try simp only[PU]
 refine bf (v:=?_) rfl (by rfl) (fun V=>?_) ?_;rotate_left
 ·go_simp;exact dR
 try simp only[PU]
 refine bf (v:=?_) rfl (by rfl) (fun V=>?_) ?_;rotate_left
 ·go_simp;exact dR
 try simp only[PU]
 refine pf ?_;refine aA ?_;have br:=ad ((Fr.aO ar).trans bI);obtain⟨v0,aH⟩:=Fr.uu br.o;clear ar bI;exact wI
 ):p:=h
theorem Ar{p:Prop}(h:p:=by
 rintro e aN ⟨rfl,ar⟩;refine dW hK (ar) ?_;clear hK K;refine bf (v:=?_) rfl (by rfl) (fun V=>?_) ?_;rotate_left
 ·go_simp;exact dR
 try simp only[PU]
 refine bf (v:=?_) rfl (by rfl) (fun V=>?_) ?_;rotate_left
 ·go_simp;exact dR
 try simp only[PU]
 exact AB
 ):p:=h
theorem As{p:Prop}(h:p:=by
 go_wp2_with(fail);generalize hX:World.setCell _ _ _=X;obtain⟨bh,bo,b0⟩:=cb (w:=w) [.int .i64 0,.int .i64 0,.slice none 0 0,.slice none 0 0] (by rfl) a2.2 a2.1 ab hX;have aP:=ad bo;clear hX bo b0 a0 ap ak bv bd be aV;exact Hm
 ):p:=h
theorem At{p:Prop}(h:p:=by
 obtain⟨bv,bd,be⟩:=bh.two;refine Km (v:=.tuple #[.agg #[.int .i64 0,.int .i64 0,.slice none 0 0,.slice none 0 0],.bool false]) (by simp[results,Tryz.results58,go_sem,bv]) rfl ?_;exact⟨rfl,aP.o⟩
 ):p:=h
theorem Au{p:Prop}(h:p:=by
 rw[bX.o];exact eS (B:=V.heap.size) bM.1 ba.2 (fun b O=>⟨fun hl=>by have:=k.o b hl;omega,ab⟩) (fun b O=>by have:=k.o b O;omega) ab ba.1 (by rw[kZ ce.2.1])
 ):p:=h
theorem Av{p:Prop}(h:p:=by
 refine eE (fun b=>b=s) [(0,3),(1,3),(3,3),(4,0),(5,3),(6,3),(7,3),(9,3),(2,1),(8,2),(10,2),(11,3),(12,2),(13,3),(14,2)] ?_
 iterate 3 refine pf ?_
 exact Gb
 ):p:=h
theorem Aw{p:Prop}(h:p:=by
 go_wp2_with(fail);refine(aP.o rs cj a9 rc W ai.o f.o).mono ?_;rintro e aN ⟨rfl,ar⟩;have br:=ad ar;clear ar;exact wI
 ):p:=h
theorem Ax{p:Prop}(h:p:=by
 obtain⟨e0,a5,aZ⟩:=aL.two;have bs:=ad aL;clear a0 ap ak h he aL hx S bY;go_wp2_with(fail);exact Gc
 ):p:=h
theorem Ay{p:Prop}(h:p:=by
 go_wp2;go_roundw
 case rel=>exact⟨k+1,ab,by go_num,J.o,bY.o⟩
 case measure=>exact aB
 ):p:=h
theorem u3{p:Prop}(h:p:=by
 refine aq rfl (fun K hK=>?_);go_simp;exact lB
 ):p:=h
theorem Az{p:Prop}(h:p:=by
 rintro aX cn j dz ⟨av,t,bH,gD,bc⟩;obtain⟨br,ah,bj⟩:=bH.two;exact g8
 ):p:=h
theorem AA{p:Prop}(h:p:=by
 refine ph ?_;refine bf (v:=?_) rfl (by rfl) (fun V=>?_) ?_;rotate_left
 ·go_simp;exact dR
 try simp only[PU]
 refine pf ?_;refine ph ?_;refine aK rfl (fun K hK=>?_);go_simp;refine(aP.o ce n1 c1 _ (Y.on (Fr.ext Kn.drew)) f.o ac.o).mono ?_;exact Ar
 ):p:=h
theorem AB{p:Prop}(h:p:=by
 refine pf ?_;refine aA ?_;have br:=ad (Fr.aO ar);clear ar;exact wI
 ):p:=h
end Go.Proofs.YtbkhhfajcgkpgaaGreat
