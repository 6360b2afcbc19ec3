/- Part 1 of the proof. No condition of its own. -/
import Derived.BigQuiet
import Derived.Deep.Cut
import Derived.Deep.DrawnRows
import Derived.Deep.Draws
import Derived.Deep.QuietTactic
import Derived.Deep.RegionHeld3
import Derived.DeepKeys
import Derived.Handy
import Derived.IntWalk
import Derived.Laws.CopyOwn
import Derived.Laws.IdiomStrings
import Derived.Laws.StructEq
import Derived.Lib.Bytes
import Derived.Lib.SlBytesConst
import Derived.Lib.SlBytesRow
import Derived.Maps.AppendAt
import Derived.OrdersHeld
import Derived.RegionTactic
import Derived.StillTail
import Derived.Test.YtnigabjngpnbiabGreatRows
import Derived.WalkKit
import Derived.WalkLawsBesides
import Derived.WalkSpells
import Derived.Test.YtnigabjngpnbiabGreatF00
namespace Go.Proofs.YtnigabjngpnbiabGreat
open Go.RowKit Go.Proofs.Tryz
set_option maxRecDepth 1000000
set_option maxHeartbeats 25600000
set_option linter.unusedVariables false
inductive NG|a
abbrev NF:=NG.a
instance:CoeOut World Nat:=⟨λw=>w.heap.size⟩
instance:Coe Int Value:=⟨λx=>.int .i64 x⟩
instance:Coe Nat Value:=⟨λx=>.int .i64 (x:Int)⟩
instance:Coe ByteArray Value:=⟨.string⟩
instance:Coe Bool Value:=⟨.bool⟩
instance:Coe Unit Value:=⟨λ_=>.slice none 0 0⟩
instance:Coe NG Value:=⟨λ_=>.string ⟨#[]⟩⟩
theorem MU:type_of% @Nat.le_refl:=@Nat.le_refl
theorem M0:type_of% @Nat.lt_of_lt_of_le:=@Nat.lt_of_lt_of_le
theorem M3:type_of% @List.length_append:=@List.length_append
theorem M4:type_of% @List.mem_of_getElem?:=@List.mem_of_getElem?
theorem M5:type_of% @List.length_map:=@List.length_map
theorem M6:type_of% @Int.eq_ofNat_of_zero_le:=@Int.eq_ofNat_of_zero_le
theorem M7:type_of% @List.map_cons:=@List.map_cons
theorem Na:type_of% @List.map_append:=@List.map_append
theorem Nb:type_of% @List.take_of_length_le:=@List.take_of_length_le
theorem Nc:type_of% @List.mem_append:=@List.mem_append
theorem Nd:type_of% @Nat.add_zero:=@Nat.add_zero
theorem Nf:type_of% @List.length_singleton:=@List.length_singleton
theorem Ng:type_of% @Bool.and_eq_true:=@Bool.and_eq_true
theorem Nh:type_of% @List.length_cons:=@List.length_cons
theorem Ni:type_of% @List.append_assoc:=@List.append_assoc
theorem Nj:type_of% @List.cons_append:=@List.cons_append
theorem Nk:type_of% @List.mem_cons:=@List.mem_cons
theorem Nl:type_of% @Nat.le_trans:=@Nat.le_trans
theorem Nm:type_of% @Nat.zero_add:=@Nat.zero_add
theorem Nn:type_of% @List.length_nil:=@List.length_nil
theorem No:type_of% @List.flatMap_cons:=@List.flatMap_cons
theorem Np:type_of% @Int.toNat_natCast:=@Int.toNat_natCast
theorem Nq:type_of% @Nat.zero_le:=@Nat.zero_le
theorem Nr:type_of% @List.map_nil:=@List.map_nil
theorem Ns:type_of% @List.mem_map:=@List.mem_map
theorem Nt:type_of% @List.append_nil:=@List.append_nil
theorem Nu:type_of% @List.nil_append:=@List.nil_append
theorem Nv:type_of% @List.mem_singleton:=@List.mem_singleton
theorem Nw:type_of% @Option.some.injEq:=@Option.some.injEq
theorem Nx:type_of% @List.drop_eq_nil_of_le:=@List.drop_eq_nil_of_le
theorem Ny:type_of% @decide_eq_true_eq:=@decide_eq_true_eq
theorem Nz:type_of% @Bool.false_eq_true:=@Bool.false_eq_true
theorem NB:type_of% @bodyPost_ret:=@bodyPost_ret
theorem NC{M:Nat->Prop}{w:World}:Fr M w w:=Fr.refl _ _
theorem ND{w:World}{t:TypeId}{cs:Array Value}:an (w.alloc (.cells cs t)) w.heap.size t cs:=an.new _ _ _
theorem ad{p:Prop}(h:p:=by omega):p:=h
theorem ax{p q:Prop}(x:q)(h:q->p:=by intro this;omega):p:=h x
theorem nI{p q r:Prop}(x:q)(y:r)(h:q->r->p:=by intro this this;omega):p:=h x y
theorem aJ{A B:Prop}(a:A)(b:B):NJ A/\NJ B:=⟨ae a,ae b⟩
theorem eU{A B C:Prop}(a:A)(b:B)(c:C):NJ A/\NJ B/\NJ C:=⟨ae a,ae b,ae c⟩
theorem jl{A B C D:Prop}(a:A)(b:B)(c:C)(d:D):NJ A/\NJ B/\NJ C/\NJ D:=⟨ae a,ae b,ae c,ae d⟩
theorem Er{A B C D E:Prop}(a:A)(b:B)(c:C)(d:D)(e:E):NJ A/\NJ B/\NJ C/\NJ D/\NJ E:=⟨ae a,ae b,ae c,ae d,ae e⟩
theorem Es{A B C D E F G:Prop}(a:A)(b:B)(c:C)(d:D)(e:E)(f:F)(g:G):NJ A/\NJ B/\NJ C/\NJ D/\NJ E/\NJ F/\NJ G:=⟨ae a,ae b,ae c,ae d,ae e,ae f,ae g⟩
theorem aH{p:Prop}(h:p:=by simp[intOf];omega):p:=h
theorem ah{A B:Prop}(a:A)(b:B):NJ (A/\B):=ae ⟨a,b⟩
theorem ay{A B C:Prop}(a:A)(b:B)(c:C):NJ (A/\B/\C):=ae ⟨a,b,c⟩
theorem br{A B C D:Prop}(a:A)(b:B)(c:C)(d:D):NJ (A/\B/\C/\D):=ae ⟨a,b,c,d⟩
theorem cQ{A B C D E:Prop}(a:A)(b:B)(c:C)(d:D)(e:E):NJ (A/\B/\C/\D/\E):=ae ⟨a,b,c,d,e⟩
theorem dH{A B C D E F:Prop}(a:A)(b:B)(c:C)(d:D)(e:E)(f:F):NJ (A/\B/\C/\D/\E/\F):=ae ⟨a,b,c,d,e,f⟩
theorem hz{A B C D E F G:Prop}(a:A)(b:B)(c:C)(d:D)(e:E)(f:F)(g:G):NJ (A/\B/\C/\D/\E/\F/\G):=ae ⟨a,b,c,d,e,f,g⟩
theorem rY{A B C D E F G H:Prop}(a:A)(b:B)(c:C)(d:D)(e:E)(f:F)(g:G)(h:H):NJ (A/\B/\C/\D/\E/\F/\G/\H):=ae ⟨a,b,c,d,e,f,g,h⟩
theorem yl{A B C D E F G H I:Prop}(a:A)(b:B)(c:C)(d:D)(e:E)(f:F)(g:G)(h:H)(i:I):NJ (A/\B/\C/\D/\E/\F/\G/\H/\I):=ae ⟨a,b,c,d,e,f,g,h,i⟩
theorem Bd{A B C D E F G H I J:Prop}(a:A)(b:B)(c:C)(d:D)(e:E)(f:F)(g:G)(h:H)(i:I)(j:J):NJ (A/\B/\C/\D/\E/\F/\G/\H/\I/\J):=ae ⟨a,b,c,d,e,f,g,h,i,j⟩
theorem aX{w W:World}{o1:Obj}(h:w.alloc o1=W):Ext w W:=by subst h;exact NC.alloc _
theorem g0{w W:World}{o1 gv:Obj}(h:(w.alloc o1).alloc gv=W):Ext w W:=by subst h;exact(NC.alloc _).alloc _
theorem l9{w W:World}{o1 gv o3:Obj}(h:((w.alloc o1).alloc gv).alloc o3=W):Ext w W:=by subst h;exact((NC.alloc _).alloc _).alloc _
theorem Ko{w W:World}{o1 gv o3 o4:Obj}(h:(((w.alloc o1).alloc gv).alloc o3).alloc o4=W):Ext w W:=by subst h;exact(((NC.alloc _).alloc _).alloc _).alloc _
theorem aL{w W:World}{t:TypeId}{cs:Array Value}(h:w.alloc (.cells cs t)=W):an W (w.heap.size) t cs:=by subst h;exact ND
theorem e5{w W:World}{gv:Obj}{t:TypeId}{cs:Array Value}(h:(w.alloc (.cells cs t)).alloc gv=W):an W (w.heap.size) t cs:=by subst h;exact(ND).alloc _
theorem eT{w W:World}{o1:Obj}{t:TypeId}{cs:Array Value}(h:(w.alloc o1).alloc (.cells cs t)=W):an W (w.heap.size+1) t cs:=by subst h;exact an.gF _ _ _ (by simp)
theorem kB{w W:World}{gv o3:Obj}{t:TypeId}{cs:Array Value}(h:((w.alloc (.cells cs t)).alloc gv).alloc o3=W):an W (w.heap.size) t cs:=by subst h;exact((ND).alloc _).alloc _
theorem iL{w W:World}{o1 o3:Obj}{t:TypeId}{cs:Array Value}(h:((w.alloc o1).alloc (.cells cs t)).alloc o3=W):an W (w.heap.size+1) t cs:=by subst h;exact(an.gF _ _ _ (by simp)).alloc _
theorem kC{w W:World}{o1 gv:Obj}{t:TypeId}{cs:Array Value}(h:((w.alloc o1).alloc gv).alloc (.cells cs t)=W):an W (w.heap.size+2) t cs:=by subst h;exact an.gF _ _ _ (by simp)
theorem I3{w W:World}{o1 gv:Obj}{t:TypeId}{cs:Array Value}(h:((w.alloc o1).alloc gv).alloc (.cells cs t)=W):an W (w.heap.size+1+1) t cs:=by subst h;exact an.gF _ _ _ (by simp)
theorem HS{w W:World}{gv o3 o4:Obj}{t:TypeId}{cs:Array Value}(h:(((w.alloc (.cells cs t)).alloc gv).alloc o3).alloc o4=W):an W (w.heap.size) t cs:=by subst h;exact(((ND).alloc _).alloc _).alloc _
theorem HT{w W:World}{o1 o3 o4:Obj}{t:TypeId}{cs:Array Value}(h:(((w.alloc o1).alloc (.cells cs t)).alloc o3).alloc o4=W):an W (w.heap.size+1) t cs:=by subst h;exact((an.gF _ _ _ (by simp)).alloc _).alloc _
theorem HU{w W:World}{o1 gv o4:Obj}{t:TypeId}{cs:Array Value}(h:(((w.alloc o1).alloc gv).alloc (.cells cs t)).alloc o4=W):an W (w.heap.size+2) t cs:=by subst h;exact(an.gF _ _ _ (by simp)).alloc _
theorem HV{w W:World}{o1 gv o3:Obj}{t:TypeId}{cs:Array Value}(h:(((w.alloc o1).alloc gv).alloc o3).alloc (.cells cs t)=W):an W (w.heap.size+3) t cs:=by subst h;exact an.gF _ _ _ (by simp)
theorem hy{w W:World}{o1:Obj}(h:(w.alloc o1).drew=W):Ext w W:=by subst h;exact(NC.alloc _).drew
theorem lW{w W:World}{t:TypeId}{cs:Array Value}(h:(w.alloc (.cells cs t)).drew=W):an W (w.heap.size) t cs:=by subst h;exact(ND).drew
theorem cP{w X:World}{g o:Nat}{v:Value}(h:w.setCell ⟨g,o,none⟩ v=X):Fr (λb=>b=g) w X:=by subst h;exact(Fr.refl (λb=>b=g) w).setCell (.inl rfl) _
theorem GH{w X:World}{g o p:Nat}{v u:Value}(h:(w.setCell ⟨g,o,none⟩ v).setCell ⟨g,p,none⟩ u=X):Fr (λb=>b=g) w X:=by subst h;exact((Fr.refl (λb=>b=g) w).setCell (.inl rfl) _).setCell (.inl rfl) _
theorem HW{p:Prop}(h:p:=by
 have bZ:=ae (bC.o b1);clear bC co;go_wp2_with(fail);refine(fV s bI TA HA bU bx tn tc hn hc aW (al.2.2.2.2.2.2.1.on a8.o).at_ aP.sm).mono ?_;rintro e b6 ⟨bc,L,aZ,S,bl,a7,xs,F1,F2,bJ,cb,rfl,cf,bp,bf⟩;have bN:=ay cf bp bf;have cI:=bf.size;clear cf bp bf bs am aK d0 aQ aS;go_upto_region 13 with(fail);generalize hV:World.alloc _ _=V;have aC:=aX hV;have b4:=aL hV;have hOut:dG aO V s b6 ⟨bc,bU,L,aZ,tn,S,bl,hn,a7⟩ xs F1 F2 bJ cb:=
  ⟨bN.1.ak λb O=>aC.block b (bN.2.1 b O).2 λh=>h,b4,λO=>by have:=(bN.2.1 _ O).2;omega,λb O=>⟨by have:=(bN.2.1 b O).1;omega,by have:=(bN.2.1 b O).2;have:=aC.size;omega⟩,ad⟩
 have y:Ext W V:=(a8.trans bN.2.2).trans aC;have k:V.ownsRow 0 138 2 (.slice I tn aD) tn (T.flatMap ch):=ja (bV (bV Q.1 (Fr.ext bN.2.2)) (Fr.ext aC)) (Nq _);have l:∀b∈bA I tn aD,aO.heap.size<=b/\b<aW.heap.size:=λb O=>Q.1.lt b (by simpa using O);have cc:=br hOut y k l;obtain⟨e0,a6,ag⟩:=hOut.o.two;clear hV aC b4 hOut y k l;go_upto_region 14 with(fail);generalize hX:World.setCell _ _ _=X;have ci:dG aO X {s with table:=T} b6.heap.size ⟨bc,bU,L,I,tn,aD,bl,hn,a7⟩ xs F1 (bA I tn aD) bJ cb:=
  cc.1.J7 cc.2.2.1 Q.2 (λb O=>⟨λhm=>by have:=(bN.2.1 b hm).1;have:=(cc.2.2.2 b O).2;omega,by have:=(cc.2.2.2 b O).2;omega,(cc.2.2.2 b O).1⟩) hX
 have b9:=cP hX;have bt:Ext W X:=Fr.low (M:=λb=>b=b6.heap.size) (Fr.trans (Fr.mono cc.2.1 λ_ h=>h.elim) b9) λb O=>ad;obtain⟨c0,c1,i2,cX,c9,dk,df,fn,cm,aH,J⟩:=ci.top (fs:=fs) (f:=f) bW.2.2.1 bW.2.1 bW.1 bW.2.2.2.1;have av:=ay aH J bt;clear e0 a6 ag;obtain⟨e0,a6,ag⟩:=ci.o.two;clear hX ci b9 bt aH J fn cm;go_wp2_with(fail);refine(av.1 X NC).mono ?_;rintro e cO ⟨rfl,cu⟩;have P:=ae (av.2.1 cO cu);have bQ:=ae (av.2.2.trans cu);clear e0 a6 ag cu;have cd:=P.c1;have g2:=P.fz;have cA:=P.lt;have c6:=ck.2.2.1;go_upto_region 15 with(fail);generalize hX:World.setCell _ _ _=Y;have cG:sZ aO Y {s with table:=T,threads:=s.threads.set t.toNat (fs++[next f])} b6.heap.size ⟨bc,bU,L,I,tn,aD,bl,hn,a7⟩ xs F1 (bA I tn aD) bJ cb t fs (next f) c0 c1 i2 cX c9 dk df:=hX▸P.K5 bW.2.2.1 (f.pc+1);have ar:=cP hX;have dI:=P.ge;have bF:Ext W Y:=Fr.low (M:=λb=>b=c0) (Fr.trans (Fr.mono bQ.o λ_ h=>h.elim) ar) λb O=>ad;have bB:=ay cG.oz (al.2.2.2.2.1.aj bF) (al.1.trans bF);obtain⟨bq,a1,a5⟩:=bB.2.1.two;obtain⟨e0,a6,ag⟩:=cG.oz.o.two;clear hX cG ar bF cd g2 cA P;go_wp2_with(fail);generalize hX:World.setCell _ _ _=Z;obtain⟨bm,bd,a4⟩:=a9 (w:=w) [.slice bc bU L,.slice I tn aD,.slice bl hn a7,.int .i64 s.fault] (by rfl) bB.2.1 bB.2.2 ad hX;have i:=ah bd a4;clear hX bd a4 bq a1 a5 e0 a6 ag;obtain⟨bq,a1,a5⟩:=bm.two;refine NB (v:=.tuple #[.agg #[.slice bc bU L,.slice I tn aD,.slice bl hn a7,.int .i64 s.fault],true]) (by simp[results,Tryz.results31,go_sem,bq]) rfl ?_;rw[bZ.o]
 show dd nC w {bu s t (next f) with table:=T} true _ _
 exact hh (aq:={bu s t (next f) with table:=T}) (q:=⟨bc,bU,L,I,tn,aD,bl,hn,a7⟩) bB.1 i.2 (λb O=>ad) ad i.1 (by rw[ek bW.2.2.1])
 ):p:=h
theorem et{p:Prop}(h:p:=by
 rw[if_neg (by first|omega|(simp only[ByteArray.size_append];omega)|(simp;omega))]
 ):p:=h
theorem HX{p:Prop}(h:p:=by
 have dz:=br x f q b7.2.2;clear x f q ci aH aK;have f2:=dz.2.1.size;by_cases fq:j+1<N
 .refine(show Calls prog 40 #[.pointer (some ⟨g,0,none⟩),.string ⟨#[44]⟩] cV _ from cL [44] g A n c T (k+1+3*j+2) deep cV dz.1 true (by rw[bW.2.2.co j ad];exact decide_eq_true ad) (λ_=>ad)).mono ?_;rintro e cJ ⟨rfl,bh,aa⟩;have ak:=ay (show bI cJ g A n c T (k+1+3*(j+1)) deep from by rw[show k+1+3*(j+1)=k+1+3*j+2+1 by omega];simpa using bh) (dz.2.1.trans aa) (dz.2.2.1.cD aa λb O _=>⟨ad,ad⟩);clear bh aa;go_wp2_with(fail);go_roundw
  case rel=>exact⟨j+1,cu,c3,rfl,fq,ak.o⟩
  case measure=>simp[Fg];omega
 .refine(show Calls prog 40 #[.pointer (some ⟨g,0,none⟩),.string ⟨#[44]⟩] cV _ from cL [44] g A n c T (k+1+3*j+2) deep cV dz.1 false (by rw[bW.2.2.co j ad];exact decide_eq_false ad) (λh=>by cases h)).mono ?_;rintro e cJ ⟨rfl,bh,aa⟩;have ak:=ay (show bI cJ g A n c T (k+1+3*j+2) deep from by simpa using bh) (dz.2.1.trans aa) (dz.2.2.1.cD aa λb O _=>⟨ad,ad⟩);clear bh aa;go_wp2_with(fail);refine(show Calls prog 78 #[.pointer (some ⟨g,0,none⟩),.string ⟨#[41]⟩] cJ _ from ko [41] g A n c T (k+1+3*j+2) deep cJ ak.1 (bW.2.2.cl j ad) ad).mono ?_;rintro e gP ⟨rfl,bh,i⟩;have F:=ak.2.2.cD i λb O _=>⟨ad,ad⟩
  have al:=ay (show bI gP g A n c T (k+1+3*N) deep from by rw[show k+1+3*N=k+1+3*j+2+1 by omega];exact bh) (ak.2.1.trans i) F;clear bh i F;go_wp2_with(fail);go_ret;refine⟨cu,j+1,c3,rfl,dz.2.2.2,by rw[hN];exact al.1,al.2.1,?_⟩;have hG:=al.2.2;rw[Nb ad] at hG;exact hG.sl (λb ap O=>⟨O,ap⟩) (λb ap O=>⟨O,ap⟩)
 ):p:=h
theorem HY{p:Prop}(h:p:=by
 go_upto_region 31 with(fail);refine eJ (λ_=>False) [(0,3),(1,3),(2,3),(3,3),(4,3),(5,0),(6,0),(7,1),(8,2),(9,3),(10,3),(11,3),(12,2)] ?_
 iterate 5 refine pf ?_
 iterate 2 refine ph ?_
 refine rS ?_;generalize cA:World.drew (World.alloc _ _)=Z;have bd:=hy cA;have bm:=lW cA;have bl:=hA.next (hA.src.cZ bd λ_ _ h=>h) (bd.mono λ_ h=>h.elim);have bc:=bZ.2.2.2.aj bd;have hg:∀b,(Value.slice FA i fc).ownBlock=some b->u<=b/\b<cD.heap.size:=λb O=>ck.fs.lt O;have iu:=ck.hD;have bS:Sl Z (lD (λb=>u<=b) Z (.slice FA i fc)) PA pn (ps.map cC):=bc.sl (λb _ h=>h.elim) (λb O aT=>⟨ad,O,λh=>by have:=(hg b h).2;omega⟩);have ir:cD<=Z.heap.size:=by have:=bZ.2.1.size;have:=bd.size;omega
 have bj:=br bl bm bS bZ.2.2.2.cap.1;have h3:=ae hg;have iw:=ck.blk.lt;clear cA bd bm bl bc bS hg a0 ak af f0 cH dS;refine au rfl (λK hK=>?_);rw[if_pos (by rfl)];refine fq Ja (.tmp 177) (.tmp 179) (by rfl) bj.1.fs bj.2.1 (Hv bj.2.2.2 bj.2.2.1) (by rfl) (by rfl) (by rfl) ad ad ad ?_;intro hY hU gP bn z cq cd;have ba:=bj.1.blk.on z (λO=>by have:=(h3.o _ O).1;omega);have aP:=ah bn z;clear bn z cq cd;obtain⟨a0,ak,af⟩:=ba.two;clear ba;refine dY hK ?_;clear hK K
 iterate 3 refine pf ?_
 refine au rfl (λK hK=>?_);go_simp;refine dY hK ?_;clear hK K;refine aG ?_;generalize ci:World.setCell _ _ _=gU;obtain⟨aU,bH,gM⟩:=h4.o;have f:=bj.1.add aP.1 aP.2 ad (ck.Lk.snoc cr bH gM gN.1);rw[ci] at f;have bp:=ae f;clear ci f a0 ak af gM;go_wp2_with(fail);go_roundw
 case rel=>exact⟨i+1,hY,hU,F++[⟨jS i,ps,.nil⟩],by go_num,ad,bp.o⟩
 case measure=>exact aH
 ):p:=h
theorem HZ{p:Prop}(h:p:=by
 go_upto_region 24 with(fail);generalize bF:World.alloc _ _=A;have l:=aX bF;have n:=aL bF;have r:=bQ.trans l;have y:=ay (RO.aj aP.1 r) (aP.2.1.trans r) (aP.2.2.trans r);have av:=ah n l;have aT:=l.size;have dI:=bQ.size;have Y:=ae y.2.2;clear bF l r;obtain⟨bs,am,aK⟩:=(al.2.2.1.aj y.2.2).two;obtain⟨d0,aQ,aS⟩:=(b4.aj y.2.1).two;obtain⟨e0,a6,ag⟩:=y.1.o.two;obtain⟨bu,k,flb,ab,J,c0,c1,c2,c3,ce⟩:=y.1.top;obtain⟨f0,cH,dS⟩:=n.two;clear n;have dk:=Y.size;go_wp2_with(fail);refine(pK P s ⟨bI,bU,bx,TA,tn,tc,HA,hn,hc⟩ z A (cc.2.2.IF H.o (al.1.trans Y.o)) (λb O=>M0 (H.o b O) (al.1.trans Y.o).size)).mono ?_;rintro e cV ⟨⟨dG,bJ,b7,dn,cz,bp,bY,cE,b8⟩,rfl,ca,bV⟩;have f2:=bV.size;have cT:=ae ca;have a3:=ah (al.2.2.2.1.aj (Y.trans bV)) ((al.1.trans Y.o).trans bV);clear ca bV f0 cH dS d0 aQ aS e0 a6 ag c0 c1 c2 c3 J flb ab bu k ce bs am aK;obtain⟨bq,a1,a5⟩:=a3.1.two;go_wp2_with(fail);generalize hX:World.setCell _ _ _=Z;obtain⟨bm,bd,a4⟩:=a9 (w:=w) [.slice dG bJ b7,.slice dn cz bp,.slice bY cE b8,z] (by rfl) a3.1 a3.2 ad hX;have bj:=ah bd a4;clear hX bd a4 bq a1 a5;obtain⟨bq,a1,a5⟩:=bm.two;refine NB (v:=.tuple #[.agg #[.slice dG bJ b7,.slice dn cz bp,.slice bY cE b8,z],true]) (by simp[results,Tryz.results51,go_sem,bq]) rfl ?_;rw[bZ.o];exact fw (B:=A.heap.size) (aq:={s with fault:=z}) cT.o bj.2 (λb O=>⟨λhl=>by have:=H.o b hl;omega,ad⟩) (λb O=>by have:=H.o b O;omega) ad bj.1 rfl
 ):p:=h
theorem H0{p:Prop}(h:p:=by
 rintro r aO ⟨rfl,b2⟩;have aM:Ext w aO:=aF.trans (Fr.of b2);obtain⟨p0,aV,dT⟩:=(d.aj (Fr.of b2)).two;have gw:=(aM.cell (j:=bF+i*3+2) bU (λh=>h)).trans f2;have bw:=ae aM;clear aF aM d e0 e1 e2 e3 f0 f1 f2 cZ cw b2;generalize ev g l e=r at *;obtain⟨v,f⟩:=r;by_cases J:f=0
 case neg=>
  have q5:(f != 0)=true:=by simpa using J
  have cC:=ae (show idx bW.size (v,f)=(0,f) by unfold idx;rw[if_pos J]);clear J;go_wp2
  go_ret2
  exact gx.mk' cC.o (Fr.ext bw.o)
 have q5:(f != 0)=false:=by simpa using J
 by_cases bK:v<0
 .have dj:decide (v<0)=true:=by simpa using bK
  have cC:=ae (show idx bW.size (v,f)=(0,2) by unfold idx;rw[if_neg (by simpa using J),if_pos (.inl bK)]);clear J bK;go_wp2
  go_ret2
  exact gx.mk' cC.o (Fr.ext bw.o)
 have dj:decide (v<0)=false:=by simpa using bK
 by_cases aw:bW.size<=v
 .have q7:decide (v>=bW.size)=true:=by simpa using aw
  have cC:=ae (show idx bW.size (v,f)=(0,2) by unfold idx;rw[if_neg (by simpa using J),if_pos (.inr aw)]);clear J bK aw;go_wp2
  go_ret2
  exact gx.mk' cC.o (Fr.ext bw.o)
 .have q7:decide (v>=bW.size)=false:=by simpa using aw
  have cC:=ae (show idx bW.size (v,f)=(v,0) by unfold idx;rw[if_neg (by simpa using J),if_neg ad]);clear J bK aw;go_wp2
  go_ret2
  exact gx.mk' cC.o (Fr.ext bw.o)
 ):p:=h
theorem ym{p:Prop}(h:p:=by
 go_wp2;go_roundw
 case rel=>exact⟨k+1,ad,by go_num,by rw[<-aS.o],bk.trans (l.trans bw.o)⟩
 case measure=>exact aH
 ):p:=h
theorem H2{p:Prop}(h:p:=by
 by_cases cB:hd.depth - 1=0
 .have D:(hd.depth - 1 == 0)=true:=by simpa using cB
  have dz:=ae cB;clear cB;go_wp2
  go_ret2
  refine gZ.mk' (A:=some ⟨g,0,none⟩) (c:=c1) (n:=n2) H.o ?_ ?_ bZ.o
  .rw[bT.o,down,if_pos dz.o];have U:(T.set k ⟨hd.owner,hd.depth - 1⟩)[k]?=some ⟨hd.owner,hd.depth - 1⟩:=by rw[List.getElem?_set_self ad]
   obtain⟨ah,j,_,_,_,_,_,F,_⟩:=jY z.o ce U;injection j with j;injection j with j;subst j;have:=F 0;rw[List.set_set] at this;exact this
  .exact(O.setCell (by simpa using aR) _).setCell (by simpa using aR) _
 .have D:(hd.depth - 1 == 0)=false:=by simpa using cB
  have dz:=ae cB;clear cB;go_wp2
  go_ret2
  refine gZ.mk' (A:=some ⟨g,0,none⟩) (c:=c1) (n:=n2) H.o ?_ ?_ bZ.o
  .rw[bT.o,down,if_neg dz.o];exact z.o
  .exact O.setCell (by simpa using aR) _
 ):p:=h
theorem H3{p:Prop}(h:p:=by
 have bZ:=ae (bC.o b1);have a3:=ah (al.2.2.2.1.aj bB.2.2) (al.1.trans bB.2.2);have c9:=bB.2.2.size;obtain⟨bq,a1,a5⟩:=a3.1.two;obtain⟨e0,a6,ag⟩:=bB.2.1.two;go_wp2_with(fail);generalize hX:World.setCell _ _ _=Z;obtain⟨bm,bd,a4⟩:=a9 (w:=w) [.slice aW ct L,.slice I tn aD,.slice (some ⟨O,0,none⟩) bk a7,.int .i64 s.fault] (by rfl) a3.1 a3.2 ad hX;have bj:=ah bd a4;clear hX bd a4 bq a1 a5 e0 a6 ag;obtain⟨bq,a1,a5⟩:=bm.two;refine NB (v:=.tuple #[.agg #[.slice aW ct L,.slice I tn aD,.slice (some ⟨O,0,none⟩) bk a7,.int .i64 s.fault],true]) (by simp[results,Tryz.results51,go_sem,bq]) rfl ?_;exact CC
 ):p:=h
theorem H4{p:Prop}(h:p:=by
 have a3:=ah (al.2.2.2.1.aj bB.2.2) (al.1.trans bB.2.2);have c9:=bB.2.2.size;obtain⟨bq,a1,a5⟩:=a3.1.two;obtain⟨e0,a6,ag⟩:=bB.2.1.two;go_wp2_with(fail);generalize hX:World.setCell _ _ _=Z;obtain⟨bm,bd,a4⟩:=a9 (w:=w) [.slice aW ct L,.slice br m S,.slice (some ⟨O,0,none⟩) bk a7,.int .i64 s.fault] (by rfl) a3.1 a3.2 ad hX;have bj:=ah bd a4;clear hX bd a4 bq a1 a5 e0 a6 ag;obtain⟨bq,a1,a5⟩:=bm.two;refine NB (v:=.tuple #[.agg #[.slice aW ct L,.slice br m S,.slice (some ⟨O,0,none⟩) bk a7,.int .i64 s.fault],true]) (by simp[results,Tryz.results51,go_sem,bq]) rfl ?_;rw[bZ.o];exact fw (B:=V.heap.size) bB.1 bj.2 (λb O=>⟨λhl=>by have:=H.o b hl;omega,ad⟩) (λb O=>by have:=H.o b O;omega) ad bj.1 (by rw[ek bW.2.1,List.set_set];rfl)
 ):p:=h
theorem Et{p:Prop}(h:p:=by
 exact CC
 ):p:=h
theorem H5{p:Prop}(h:p:=by
 have aA:=ah N cd;have b4:=al.2.2.2.1.on bN.2 (λh=>by have:=al.2.2.2.2;omega);have aE:=ae b4;obtain⟨e0,a6,ag⟩:=b4.two;clear h he N cd b4;go_wp2_with(fail);generalize co:World.setCell _ _ _=Y;obtain⟨bM,bA,bz⟩:=eg (M:=λb=>b=s) [(1:Int),cS,NF,()] (by rfl) aE.o (al.2.2.1.trans bN.2) (MU _) co;obtain⟨bq,a1,a5⟩:=bM.two;refine NB (v:=.agg #[(1:Int),cS,NF,()]) (by simp[results,Tryz.results128,go_sem,bq]) rfl ?_;exact⟨.num cS,none,0,0,rfl,(by cases d<;>exact aA.o),MU _,Sl.bY _,bN.1.cZ bz (λb O h=>by have:=al.2.2.2.2;omega),bA⟩
 ):p:=h
theorem H6{p:Prop}(h:p:=by
 clear h;go_enter func22,ntmps22;go_upto_region 1 with(fail);generalize be:World.alloc _ _=W;have aF:=g0 be;have aT:=e5 be;have cx:=eT be;obtain⟨a0,ak,af⟩:=aT.two;obtain⟨bq,a1,a5⟩:=cx.two;have bk:=ah aF cx;clear be aF aT cx;go_wp2_with(fail);generalize hX:World.setCell _ _ _=X;obtain⟨bE,bt,ct⟩:=a9 (w:=w) [(0:Int),(0:Int),(),()] (by rfl) bk.2 bk.1 ad hX;have aP:=ae bt;clear hX bt ct a0 ak af bq a1 a5;exact CB
 ):p:=h
theorem H7{p:Prop}(h:p:=by
 obtain⟨bq,a1,a5⟩:=a3.1.two;go_wp2_with(fail);generalize hX:World.setCell _ _ _=Z;obtain⟨bm,bd,a4⟩:=a9 (w:=w) [.slice dG bJ b7,.slice dn cz bp,.slice bY cE b8,z] (by rfl) a3.1 a3.2 ad hX;have bj:=ah bd a4;clear hX bd a4 bq a1 a5;obtain⟨bq,a1,a5⟩:=bm.two;refine NB (v:=.tuple #[.agg #[.slice dG bJ b7,.slice dn cz bp,.slice bY cE b8,z],true]) (by simp[results,Tryz.results51,go_sem,bq]) rfl ?_;rw[bZ.o];exact fw (B:=cO.heap.size) (aq:={s with fault:=z}) cT.o bj.2 (λb O=>⟨λhl=>by have:=H.o b hl;omega,ad⟩) (λb O=>by have:=H.o b O;omega) ad bj.1 rfl
 ):p:=h
theorem Kp{p:Prop}(h:p:=by
 exact CB
 ):p:=h
theorem H8{p:Prop}(h:p:=by
 have c0:=Z 0 ci rfl;have c1:=Z 1 cr rfl;have c2:=Z 2 cf rfl;have c3:=Z 3 bv rfl;simp only[Nd] at c0;have aZ:b<wr:=O;clear Z O;obtain⟨B,bO,bc,e,c6,b3⟩:=aY.1 aa;simp only[List.cons.injEq,and_true] at e;obtain⟨rfl,rfl,rfl,rfl⟩:=e;obtain⟨bB,G⟩:=aJ bb aa;clear bb aa b3;go_wp2_with(fail);refine(cC.o k z bB.o _ _ _ _ _ _ wr G.o).mono ?_;rintro e aW ⟨rfl,bF⟩;have a8:=ae (bk.trans bF);have cb:=ae (bL.aj bF);clear bF;exact CI
 ):p:=h
theorem H9{p:Prop}(h:p:=by
 go_wp2_with(fail);refine(show Calls prog 78 #[.pointer (some ⟨g,0,none⟩),.string ⟨#[40]⟩] w _ from ko [40] g A n c T k deep w H.o bW.1 ad).mono ?_;rintro e aO ⟨rfl,bh,hF⟩;have H1:=ah bh hF;clear bh hF;go_wp2_with(fail);refine(show Calls prog 40 #[.pointer (some ⟨g,0,none⟩),.string ⟨#[41]⟩] aO _ from cL [41] g A n c T (k+1) deep aO H1.1 true bW.2 (λ_=>ad)).mono ?_;rintro e aW ⟨rfl,bh,hF⟩;have b1:=ah (show bI aW g A n c T (k+2) deep from by simpa using bh) (H1.2.trans hF);clear bh hF H1;go_wp2_with(fail);go_ret;exact⟨rfl,b1.o⟩
 ):p:=h
theorem Ia{p:Prop}(h:p:=by
 refine gZ.mk' (A:=some ⟨g,0,none⟩) (c:=c1) (n:=n2) H.o ?_ ?_ bZ.o
 .rw[bT.o];have U:(T.set k ⟨th+1,hd.depth⟩)[k]?=some ⟨th+1,hd.depth⟩:=by rw[List.getElem?_set_self ad]
  obtain⟨ah,j,_,_,_,_,_,_,s1⟩:=jY l.o ce U;injection j with j;injection j with j;subst j;have:=s1 (hd.depth+1);rw[List.set_set] at this;exact this
 .exact(dp.setCell (by simpa using aR) _).setCell (by simpa using aR) _
 ):p:=h
theorem Ib{p:Prop}(h:p:=by
 rw[aU bW.o,qT,<-List.append_assoc,Na,eE];have ac:=(ao.dm (ab:=X) b9.size λb ap hp=>b9.block b ap λhe=>by
  subst he;rcases hp with hp|hp
  .exact hp.elim
  .exact cE.1 hp).dm (ab:=cD) I.size λb ap hp=>I.block b ap λhe=>by
  subst he;rcases hp with hp|hp
  .exact hp.elim
  .exact cE.2 hp
 show Gr (λ_=>False) W.heap.size 128 3 cD A2 (ln+k+1) c2 _
 simpa using ac
 ):p:=h
theorem Ic{p:Prop}(h:p:=by
 go_wp2_with(fail);generalize co:World.setCell _ _ _=Y;obtain⟨bM,bA,bz⟩:=eg (M:=λ_=>False) [(),(),()] (by rfl) bH.2.2.1 (w:=w) bH.1 ad co;obtain⟨bq,a1,a5⟩:=bM.two;refine NB (v:=.tuple #[.agg #[(),(),()],(11:Int)]) (by simp[results,Tryz.results35,go_sem,bq]) rfl ?_;exact⟨_,_,_,_,_,_,_,_,_,_,rfl,bA⟩
 ):p:=h
theorem Ie{p:Prop}(h:p:=by
 go_wp2_with(at_builtin;refine b9 aW kQ rfl (.tmp 28) (.tmp 30) rfl (w.heap.size+1) _ k _ #[_] rfl a6.o rfl rfl (by simp[Value.oneCell']) ad ad b3 ?_;intro ai b6 f dP au;obtain⟨cu,c3,rfl,br,_⟩:=bG f);go_roundw
 case rel=>
  refine⟨k+1,ad,by go_num,l.on (Jl a6.o dP λg aR=>aR),?_⟩;rw[xW P.o,<-aS.o];exact f
 case measure=>exact aH
 ):p:=h
theorem Kq{p:Prop}(h:p:=by
 obtain⟨dq,cU,_,aB,_⟩:=h.hF.ex;rw[h.hp] at cU;injection cU with cU;subst cU;rcases aN with⟨ac,az,aV,aU,cB⟩|⟨ac,_⟩|⟨ac,_⟩|⟨ac,_,az,aV,aU⟩|⟨ac,_⟩|⟨ac,_⟩
 .exact⟨az,aV,λ_ aR=>by have:=aU aR;simpa[bg] using this,λ_ aR=>by have:=cB aR;omega⟩
 .omega
 .omega
 .exact⟨az,aV,λh=>ad,λh=>ad⟩
 .omega
 .omega
 ):p:=h
theorem Ig{p:Prop}(h:p:=by
 by_cases ac:op=16
 .refine .inl ⟨by simpa using ac,?_,by simp;omega⟩;have:v1≠0:=λag=>bg ⟨ac,ag⟩;simpa using this
 .by_cases az:op=17
  .refine .inr (.inl ⟨by simpa using ac,by simpa using az,?_⟩);by_cases bK:v1=0
   .simpa using bK
   .exact absurd ⟨az,bK⟩ bD
  .exact .inr (.inr ⟨by simpa using ac,by simpa using az⟩)
 ):p:=h
theorem Ih{p:Prop}(h:p:=by
 rintro a5 bf ⟨rfl,ar⟩;have aG:=ae (F.trans ar);have aU:=ae (aN.trans ar);have bD:=ae (aw.aj ar);have bY:=ae (bY.aj ar);clear a0 ak af F aN aw;obtain⟨a0,ak,af⟩:=bY.two;clear a0 ak af;obtain⟨a0,ak,af⟩:=bY.two;go_wp2;go_roundw
 case rel=>exact⟨j+1,ad,by go_num,aG.o,aU.o,bD.o⟩
 case measure=>exact aH
 ):p:=h
theorem Eu{p:Prop}(h:p:=by
 constructor
 .rintro⟨y,rfl,h⟩;rw[bj] at h;obtain⟨cf,rfl,h⟩:=h;rw[aR] at h;subst h;rfl
 .rintro rfl;exact⟨_,rfl,bj.2 ⟨_,rfl,aR.2 rfl⟩⟩
 ):p:=h
theorem uA{p:Prop}(h:p:=by
 go_enter func33,ntmps33;go_wp2_with(fail);go_ret;exact⟨rfl,NC.alloc _⟩
 ):p:=h
theorem yn{p:Prop}(h:p:=by
 generalize (Value.agg #[.int .i64 x.a5,.int .i64 x.numOf,.string x.bw,.slice cW bh cY])=Y;intro aW;exact key a3 Y _ aW
 ):p:=h
theorem yo{p:Prop}(h:p:=by
 go_wp2;go_roundw
 case rel=>exact⟨k+1,ad,by go_num,by rw[<-aS.o],bw.o⟩
 case measure=>exact aH
 ):p:=h
theorem Ii{p:Prop}(h:p:=by
 rintro e az ⟨rfl,he⟩;have a8:=ae (bw.trans he);have m:=ae (l.trans he);have cb:=ae (G.aj he);clear he a0 ak af bw l G;obtain⟨a0,ak,af⟩:=cb.two;go_wp2;refine wp_loop_rounds 1 ?_;rw[rounds_succ];go_wp2;go_roundw
 case rel=>exact⟨k+1,ad,by go_num,a8.o⟩
 case measure=>exact aH
 ):p:=h
theorem yp{p:Prop}(h:p:=by
 rcases O with O|O
 .rw[O] at hc;exact aZ.2.2 hc
 .rw[O] at hc;injection hc with hc;have:=aZ.2.1;omega
 ):p:=h
theorem rZ{p:Prop}(h:p:=by
 exact gZ.mk' H.o (by rw[bT.o];exact aB) O bZ.o
 ):p:=h
theorem yq{p:Prop}(h:p:=by
 refine fin _ λs hs=>?_;rcases Nk.1 hs with rfl|hs
 .exact⟨c,c⟩
 .exact aq.2 s hs
 ):p:=h
theorem Ij{p:Prop}(h:p:=by
 exact CI
 ):p:=h
theorem Ev{p:Prop}(h:p:=by
 obtain⟨A,n,c,ac,az,aV⟩:=h.ex;exact⟨M0 h.lt O.size,A,n,c,ac,(O.cell h.lt (λh=>h)).trans az,aV.on (Fr.ext O)⟩
 ):p:=h
theorem Ew{p:Prop}(h:p:=by
 simp only[D.aQ,D.rep];constructor
 .rintro⟨x,y,rfl,rfl,h⟩;exact⟨y,rfl,h⟩
 .rintro⟨y,rfl,h⟩;exact⟨_,y,rfl,rfl,h⟩
 ):p:=h
theorem yr{p:Prop}(h:p:=by
 go_wp2;go_roundw
 case rel=>exact⟨k+1,ad,by go_num,a4.o⟩
 case measure=>exact aH
 ):p:=h
theorem uB{p:Prop}(h:p:=by
 go_wp2;go_ret;exact⟨ret_bool (by rw[a3.o]),O⟩
 ):p:=h
theorem Ik{p:Prop}(h:p:=by
 unfold eP at h;rw[bK,fE] at h;obtain⟨y,rfl,h⟩:=h;obtain⟨x,cf,rfl,hx,bb⟩:=dL.1 h;obtain⟨A,n,c,rfl,hc,hs⟩:=jQ.1 hx;rw[D.bx] at bb;obtain⟨A2,c2,rfl⟩:=fy.1 bb;exact⟨_,A,n,c,_,_,rfl,hx⟩
 ):p:=h
theorem ys{p:Prop}(h:p:=by
 clear bD ci;go_wp2;go_ret;refine⟨ret_bool ?_,O⟩;rw[a3.o,i.o,a2.o];simp
 ):p:=h
theorem Il{p:Prop}(h:p:=by
 rcases h with⟨m,hm,_,ac,az⟩|⟨_,hp⟩
 .by_cases aI:0<m.size
  .obtain⟨l,a,hs⟩:=ac aI;rw[aN] at a;injection a with a;subst a;exact hs
  .rw[az aI] at aN;cases aN
 .rw[hp] at aN;cases aN
 ):p:=h
theorem Im{p:Prop}(h:p:=by
 obtain⟨cr,rfl,ac⟩:=bj.1 h;obtain⟨cf,rfl,az⟩:=bj.1 ac;obtain⟨bv,rfl,aV⟩:=bj.1 az;obtain⟨A,n,c,cL,rfl,hc,hs,aU⟩:=aN.1 aV;rw[aR] at aU;subst aU;exact⟨A,n,c,rfl,hc,hs⟩
 ):p:=h
theorem Io{p:Prop}(h:p:=by
 unfold cC;rw[bK,cx];constructor
 .rintro⟨y,rfl,h⟩;rw[fE] at h;obtain⟨cf,rfl,h⟩:=h;rw[aR] at h;subst h;rfl
 .rintro rfl;exact⟨_,rfl,fE.2 ⟨_,rfl,aR.2 rfl⟩⟩
 ):p:=h
theorem r0{p:Prop}(h:p:=by
 go_wp2;go_ret;exact⟨ret_int (by rw[a3.o]),O⟩
 ):p:=h
theorem Ip{p:Prop}(h:p:=by
 have a3:=rY r1 cE.1 cE.2 gV gW cq rg ro;clear r1 gV gW cq rg ro ao b3 bS cM cE b9 m I cl c0 ch bz;go_wp2;go_roundw
 case rel=>exact⟨k+1,A2,c2,ad,by go_num,a3.o⟩
 case measure=>exact aH
 ):p:=h
theorem Iq{p:Prop}(h:p:=by
 simp only[No,Atom.bytes,Nj,Nu];unfold fI;simp only[g,cS,H,Nz,if_false,k];rw[if_neg ad,if_neg ad];exact qh (aq _) (by simp) (by simp)
 ):p:=h
theorem Ex{p:Prop}(h:p:=by
 have hle:=(Fr.aF ar).size;clear hV ar;generalize aO.heap.size=dd at *;exact key dd V ⟨aC,aT,hle⟩
 ):p:=h
theorem Ir{p:Prop}(h:p:=by
 have:b=.sg [41]:=by
  simp[ei] at O;exact O.symm
 subst this;refine⟨λh=>by simp[Atom.jV] at h,λs hs _ c hc=>?_⟩;injection hs with hs;subst hs;simp[Atom.head] at hc;subst hc;decide
 ):p:=h
theorem It{p:Prop}(h:p:=by
 apply List.ext_getElem?
 intro j;rw[List.getElem?_map,List.getElem?_map];by_cases bi:i=j
 .subst bi;rw[List.getElem?_set_self (List.getElem?_eq_some_iff.1 J).1,J];rfl
 .rw[List.getElem?_set_ne bi]
 ):p:=h
theorem Iu{p:Prop}(h:p:=by
 have ac:=e1.size;exact⟨λO=>by
  rcases ci _ O with h|h
  .exact(aB _ h).2.1 rfl
  .omega,λO=>by
  rcases ci _ O with h|h
  .exact(aB _ h).2.2 rfl
  .omega⟩
 ):p:=h
theorem Kr{p:Prop}(h:p:=by
 rw[mV];exact(bH.2.2.2.2.1.ak λb O=>J.block b O.2 (nI O.1 a3.2.1.lt)).mono λb O=>⟨by have:=O.1;have:=a3.2.1.lt;omega,by have:=O.2;have:=J.size;omega⟩
 ):p:=h
theorem yt{p:Prop}(h:p:=by
 exact kO.bad a3.o (bT.below.trans (Q.below.mono bT.below.size))
 ):p:=h
theorem yu{p:Prop}(h:p:=by
 have az:=bL.2;simp only[M7,Nr,az];exact ac
 ):p:=h
theorem Ks{p:Prop}(h:p:=by
 rw[mV];exact(bH.2.2.2.2.1.ak λb O=>J.block b O.2 (nI O.1 a3.2.1.lt)).mono λb O=>⟨by have:=O.1;omega,by have:=O.2;have:=J.size;omega⟩
 ):p:=h
theorem yv{p:Prop}(h:p:=by
 rw[aR] at aV;subst aV;exact⟨A,n,c,rfl,hc,hs⟩
 ):p:=h
theorem Iv{p:Prop}(h:p:=by
 have aP:=ah bE ct;clear hX bE ct o1 ar;go_wp2_with(fail);go_roundw
 case rel=>exact⟨k+1,by go_num,ad,aP.1,aP.2⟩
 case measure=>exact aH
 ):p:=h
theorem Iw{p:Prop}(h:p:=by
 obtain⟨len,_,aN⟩:=h.ok;rcases aN with⟨ac,_⟩|⟨ac,_⟩|⟨_,_,ac⟩|⟨ac,_⟩|⟨ac,_⟩|⟨ac,_⟩<;>first|exact ac|omega
 ):p:=h
theorem yw{p:Prop}(h:p:=by
 generalize wr.heap.size=dP;intro aF;exact key a3 dP j _ aF
 ):p:=h
theorem Az{p:Prop}(h:p:=by
 refine⟨_,_,_,_,_,rfl,?_,bA.drew⟩;rw[aV.o];refine dK.2 ⟨none,0,0,rfl,MU _,?_⟩;simp only[aN];exact Sl.bY _
 ):p:=h
theorem wv{p:Prop}(h:p:=by
 go_wp2;go_ret;exact⟨ret_int (by rw[a3.o];rfl),NC.alloc _⟩
 ):p:=h
theorem AA{p:Prop}(h:p:=by
 refine aG ?_;go_wp2_with(fail);go_roundw
 case rel=>exact⟨cS+1,by go_num,ad,bu.2.2⟩
 case measure=>simp[intOf]<;>omega
 ):p:=h
theorem wx{p:Prop}(h:p:=by
 exact⟨_,rfl,aN.2 ⟨A,n,c,[],rfl,hc,hs,aR.2 rfl⟩⟩
 ):p:=h
theorem AB{p:Prop}(h:p:=by
 go_wp2_with(fail);go_roundw
 case rel=>exact⟨k+1,by go_num,ad,by rw[<-bH.o];exact bL.1,bL.2⟩
 case measure=>exact aH
 ):p:=h
theorem AD{p:Prop}(h:p:=by
 intro hm;rcases hm with hm|hm|hm
 .have:=HA.lt;omega
 .have:=(HA.rows.one.lt hm).2;omega
 .have:=(HA.rows.two.lt hm).2;omega
 ):p:=h
theorem AE{p:Prop}(h:p:=by
 obtain⟨len,_,aN⟩:=n.ok;rcases aN with⟨ac,_⟩|⟨ac,_⟩|⟨ac,_⟩|⟨ac,_⟩|⟨ac,_⟩|⟨ac,_⟩<;>omega
 ):p:=h
theorem AF{p:Prop}(h:p:=by
 simp only[Nc] at O ⊢;rcases O with O|O|O
 .exact .inl O
 .exact .inr (.inl O)
 .exact .inr (.inr (.inr O))
 ):p:=h
theorem s0{p:Prop}(h:p:=by
 have:=aw.2;simpa[rN,rV] using this
 ):p:=h
theorem AG{p:Prop}(h:p:=by
 rw[<-hX];exact⟨N.below.setCell (p:=⟨wr,0,none⟩) (MU _) _,N.blk.aK 0 _,by simpa using N.lt⟩
 ):p:=h
theorem s3{p:Prop}(h:p:=by
 go_wp2;go_ret;exact⟨ret_bool a3.symm,a8.o⟩
 ):p:=h
theorem I4{p:Prop}(h:p:=by
 have cc:(hd.owner == 0)=true:=by simpa using bD
 clear bD;go_wp2;go_ret;exact⟨ret_bool (by rw[a3.o,a2.o];rfl),O⟩
 ):p:=h
theorem AH{p:Prop}(h:p:=by
 unfold gv;rw[bK];exact cx.2 ⟨_,rfl,aN.2 ⟨none,0,0,[],rfl,MU _,Sl.bY _,aR.2 rfl⟩⟩
 ):p:=h
theorem AI{p:Prop}(h:p:=by
 clear al;conv=>arg 2;whnf
 go_wp2
 try refine x _ _ ?_
 unfold rK
 iterate 248 apply Exists.intro
 exact⟨aR.o,rfl⟩
 ):p:=h
theorem AJ{p:Prop}(h:p:=by
 have bx:L=T:=by rw[<-bL.o];unfold fJ;rw[J];rfl
 exact gZ.mk' H.o (by rw[bx];exact S) dp J
 ):p:=h
theorem wy{p:Prop}(h:p:=by
 go_wp2;go_ret;exact⟨ret_int (by rw[bL.o]),Below.refl _ _⟩
 ):p:=h
theorem AK{p:Prop}(h:p:=by
 rw[D.bx] at bb;obtain⟨A2,cW,c2,rfl,_,_⟩:=aY.1 bb;exact⟨_,_,_,_,_,_,_,_,rfl,bb⟩
 ):p:=h
theorem AL{p:Prop}(h:p:=by
 rcases Nat.eq_zero_or_pos n2 with ac|ac
 .exact ac
 .obtain⟨b,o,az,_⟩:=ht.2 ac;rw[h0] at az;cases az
 ):p:=h
theorem wz{p:Prop}(h:p:=by
 have:=(List.getElem?_eq_some_iff.1 hm).1;simp at this;omega
 ):p:=h
theorem AM{p:Prop}(h:p:=by
 exact Fr.low (M:=λb=>b=S.heap.size+1+1) ((ac.mono λ_ h=>h.elim).trans aA) λk aj=>ad
 ):p:=h
theorem wA{p:Prop}(h:p:=by
 exact gx.mk' rfl ((Below.refl _ _).alloc (MU _) _)
 ):p:=h
theorem AN{p:Prop}(h:p:=by
 unfold heldBy;rw[f,show (hd.owner == th+1)=true by simpa using aU,decide_eq_true ⟨hm,aV⟩];rfl
 ):p:=h
theorem AO{p:Prop}(h:p:=by
 rcases H with H|H
 .rw[H] at O;exact .inl O
 .rw[H] at O;injection O with O;right;omega
 ):p:=h
theorem AP{p:Prop}(h:p:=by
 generalize (Value.agg (z.val S))=Y;generalize (Value.slice A2 ai c2)=j;intro F;exact key dP j Y _ F
 ):p:=h
theorem AQ{p:Prop}(h:p:=by
 obtain⟨cf,rfl,h⟩:=h;rw[bj] at h;obtain⟨bv,rfl,h⟩:=h;rw[aR] at h;subst h;rfl
 ):p:=h
theorem I5{p:Prop}(h:p:=by
 rcases hm with hm|hm
 .rcases hp with hp|hp
  .omega
  .have:=(bp b hp).1;omega
 .omega
 ):p:=h
theorem AR{p:Prop}(h:p:=by
 cases j with
 | zero=>simp[o2] at bi;exact⟨rfl,bi.symm⟩
 | succ j=>simp[o2] at bi
 ):p:=h
theorem AS{p:Prop}(h:p:=by
 exact(lU.cons (.cons (.cons (.app (.cons (.nl (l:=[]) λa h=>by simp at h)))))).2 a bg
 ):p:=h
theorem AT{p:Prop}(h:p:=by
 simp only[VE.a5,VE.numOf,VE.bw] at *;go_wp2;go_ret;exact⟨ret_str b7.o,bk.o⟩
 ):p:=h
theorem AU{p:Prop}(h:p:=by
 by_cases ag:0<=bF X e/\0<=th
 .exact ag
 .rw[qx ag] at J;cases J
 ):p:=h
theorem AV{p:Prop}(h:p:=by
 rintro e ab ⟨rfl,bh,hF⟩;exact⟨none,0,0,rfl,MU _,bh,hF,Sl.bY _⟩
 ):p:=h
theorem AW{p:Prop}(h:p:=by
 have:=bj.2.2.1
 cases d with
 | zero=>exact this.elim
 | succ cZ=>exact⟨cZ,rfl⟩
 ):p:=h
theorem AX{p:Prop}(h:p:=by
 by_cases aw:j<k
 .exact aY.o j aw
 .obtain rfl:j=k:=ad;exact aP.o
 ):p:=h
theorem AY{p:Prop}(h:p:=by
 conv=>lhs;rw[<-dk cq]
 simp only[ByteArray.append_assoc,ag];simp
 ):p:=h
theorem AZ{p:Prop}(h:p:=by
 exact xR (q:=⟨bI,bU,bx,TA,tn,tc,HA,hn,hc⟩) cc.2.2 H.o bj.o
 ):p:=h
theorem A0{p:Prop}(h:p:=by
 clear hx cT J;go_wp2_with(fail);go_ret;rw[bZ.o];exact gY.nil (Fr.of a3.2.1)
 ):p:=h
theorem A1{p:Prop}(h:p:=by
 unfold heldBy;rw[f,show (hd.owner == th+1)=false by simpa using aU];simp
 ):p:=h
theorem A3{p:Prop}(h:p:=by
 go_wp2;go_ret;exact⟨none,0,rfl,World.ownsRow_nil _ _ _ _,Below.refl _ _⟩
 ):p:=h
theorem A4{p:Prop}(h:p:=by
 simp only[al.eV,aB.decl,HM,Nt];cases d<;>exact Iff.rfl
 ):p:=h
theorem A5{p:Prop}(h:p:=by
 unfold qi;rw[List.range_succ,Na,List.filter_append];simp[h]
 ):p:=h
theorem A6{p:Prop}(h:p:=by
 intro x hx;obtain⟨j,bi⟩:=List.getElem?_of_mem hx;simpa using h j x bi
 ):p:=h
theorem A7{p:Prop}(h:p:=by
 exact lE _ _ _ _ _ (by rw[mU];omega) (by rw[mU];omega)
 ):p:=h
theorem A8{p:Prop}(h:p:=by
 clear hm;go_wp2;go_ret;exact⟨ret_int (by rw[a3.o];rfl),aF.alloc _⟩
 ):p:=h
theorem I6{p:Prop}(h:p:=by
 unfold free;rw[decide_eq_true ⟨hm,h0⟩,f,P,ba,Bool.true_and]
 ):p:=h
theorem A9{p:Prop}(h:p:=by
 rw[r8,<-List.append_assoc];exact Nc.2 (.inl this)
 ):p:=h
theorem Ba{p:Prop}(h:p:=by
 exact⟨Sl.bY _,(H1.1.m.ak aj).mono hm,(H1.1.f.ak aj).mono hm⟩
 ):p:=h
theorem Bb{p:Prop}(h:p:=by
 simp only[dj,count_nil,bs,cI,eG];omega
 ):p:=h
theorem Bc{p:Prop}(h:p:=by
 rw[aU a3.2.2.2.1,Na,Na];exact b7.1
 ):p:=h
theorem s4{p:Prop}(h:p:=by
 obtain⟨bs,am,aK⟩:=(al.2.2.1.aj aC).two;clear hV aC cn du cY;have dD:w+2<V.heap.size:=ad;go_wp2_with(fail);refine(Hm P s t fs f ⟨bI,bU,bx,TA,tn,tc,HA,hn,hc⟩ V (cc.2.2.IF H.o (al.1.trans bO.o)) (λb O=>M0 (H.o b O) (al.1.trans bO.o).size) i.sm c5 bW.2.1).mono ?_;rintro e b6 ⟨⟨aW,ct,L,br,m,S,bL,bk,a7⟩,O,lb,lc,hx,b2,ds,cm,d1,aH,F1,F2,a8,rfl,bf,dO⟩;have bN:=ah bf dO;have cI:=bf.size;clear bf dO bs am aK;dsimp only[SV.val];go_upto_region 5 with(fail);generalize hU:World.alloc _ _=U;have cl:=aX hU;have cN:=aL hU;have bT:=bN.2 U b6 cl cN (MU _);have dM:=bT.m3;have cv:=bT.gl;have cC:=bT.tl;have bw:=bT.hl;simp only at dM cv cC bw;subst dM;obtain⟨bu,k,flb,ab,J,c0,c1,c2,c3,ce⟩:=bT.top;have ap:Ext V U:=bN.1.trans cl;have dV:=(bT.lo lb (by simp)).1;have a2:=cQ bT ap cv cC bw;have bG:t<(bk:Int):=by have:=bW.2.2.2.2;omega
 have dQ:((fs.length:Nat):Int)<(lc:Int):=by have:=bT.l.cap;omega
 have dT:fs.length<=lc:=ad;obtain⟨e0,a6,ag⟩:=cN.two;clear hU cl cN bT ap cv cC bw bN;go_upto_region 8 with(fail);generalize hX:World.setCell _ _ _=X;have ci:RO P V X {s with threads:=s.threads.set t.toNat (fs++[next f])} t.toNat fs (next f) b6 ⟨aW,ct,L,br,m,S,some ⟨O,0,none⟩,bk,a7⟩ O lb lc hx b2 ds cm d1 aH F1 F2 a8:=hX▸a2.1.pc (f.pc+1);have b9:=cP hX;have cf:Ext V X:=Fr.low (M:=λb=>b=lb) (Fr.trans (Fr.mono a2.2.1 λ_ h=>h.elim) b9) λb O=>ad;have bt:=bO.trans cf;have aP:=ay ci cf bt;have dP:=cf.size;clear hX b9 e0 a6 ag c0 c1 c2 c3 J flb ab bu k ce;obtain⟨bu,k,flb,ab,J,c0,c1,c2,c3,ce⟩:=ci.top;obtain⟨a0,ak,af⟩:=(al.2.1.aj bt).two;obtain⟨bs,am,aK⟩:=(al.2.2.1.aj bt).two;obtain⟨d0,aQ,aS⟩:=(b4.aj cf).two;obtain⟨e0,a6,ag⟩:=ci.o.two;have dU:=(ci.lo b6 (by simp))
 exact s5
 ):p:=h
theorem s6{p:Prop}(h:p:=by
 have i:=ae h;have bW:=cQ bP bv cD wj ve;have dw:t<(hn:Int):=ad;have cc:=ay hu hs bn;obtain⟨H,cX⟩:=aJ bh cp;clear h bP cC bv cD wj ve hu hs bn bh cp;dsimp only[UV.val,SV.val];go_enter func51,ntmps51;go_upto_region 1 with(fail);generalize be:World.alloc _ _=W;have aF:=l9 be;have b0:=kB be;have bX:=iL be;have cx:=kC be;have al:=dH aF b0 bX cx (cc.1.on aF) (cc.2.1.on aF);have cZ:=aF.size;have dA:=cx.lt;obtain⟨a0,ak,af⟩:=b0.two;obtain⟨bs,am,aK⟩:=bX.two;clear be aF b0 bX cx;go_wp2_with(fail);refine(vJ u s t f cq x W ⟨GA,gn,gc,MA,mn,mc,PA,pn,pc⟩ ⟨bI,bU,bx,TA,tn,tc,HA,hn,hc⟩ ⟨i.sm,i.ht,i.hp,i.hx,i.hF.proc,i.pc.1,i.il,i.kl,al.2.2.2.2.1,al.2.2.2.2.2⟩).mono ?_;rintro e aO ⟨⟨eo,en,es,EA,em,ec,QA,qm,qc,dl,j,dh,KA,di,kc⟩,rfl,bK,aM⟩;have cY:=ah bK aM;clear a0 ak af bs am aK bK aM;dsimp only[IV.val];go_upto_region 2 with(fail);generalize hV:World.alloc _ _=V;have cn:=aX hV;have du:=aL hV;have aC:Ext W V:=cY.2.trans cn;have dm:=aC.size;have cg:=du.lt;have dR:=cY.2.size;have bO:=ae aC;have dy:=ae (cY.1.on cn);have b4:=ae du;exact s7
 ):p:=h
theorem ma{p:Prop}(h:p:=by
 intro p ck B eE bi ps V T ls N S L av a9 QA cq qc bQ a1 be bC bL on bF b5 fk bn aT bv wr bl bX cD b4 mL aR bY cd c2 bc cc aJ bg bq Q hQ0 hN K hK;intros
 obtain⟨s,wb,sA,bU,bx,sl,GA,gn,gc,MA,mn,mc,FA,fn,fc,M,F,ar⟩:=p;simp only at fk bl bX cD;obtain⟨a0,ak,af⟩:=bY.1.blk.two;obtain⟨bs,am,aK⟩:=bY.2.1.two;obtain⟨d0,aQ,aS⟩:=bY.2.2.two;conv=>arg 2;whnf
 conv at hK=>enter [a,w,1,2];whnf
 exact mb
 ):p:=h
theorem I7{p:Prop}(h:p:=by
 refine oP ?_
 iterate 4 refine pf ?_
 refine aE rfl (λK hK=>?_);go_simp;refine(j6 ⟨s,wb,sA,bU,bx,sl,GA,gn,gc,MA,mn,mc,FA,fn,fc,M,F,ar⟩ L a1 be bp bC wr.drew ((bY.1.aj bl NC.drew).wr aR.1) ((Sl.cD aR.2.2.2.2.1 (bY.1.aj bl NC.drew).fr).mono λb O=>⟨O.1,λh=>O.2 (.inl h)⟩) ad).mono ?_;rintro e aO ⟨x,cW,bh,cY,rfl,hx,aM,cm,h,he⟩;simp only at h he;have ai:Fr (λb=>b=s) wr aO:=Fr.aF he;have aw:=bY.2.2.on ai ad;have a3:=hz (bY.1.next bl h ai) aw hx aM cm ai.size (bY.2.1.on ai Z);refine dB hK (he) ?_;clear hK K;clear aw hx aM cm h he ai a0 ak af bs am aK d0 aQ aS;refine au rfl (λK hK=>?_);go_simp
 first
  | rw[j.2,show IntKind.i64.wrap ((i:Nat):Int)=((i:Nat):Int) from IntWalk.i64_in _ ad]
  | rw[j.2]
 refine(cc.2.2 L ad i 3 a1 (T++decls ls) be bp bC a9 ps QA cq qc bQ aO ad ad (a3.1.wr aR.1) (Sl.cD aR.2.2.2.2.1 a3.1.fr) ad (λk aj=>cc.2.1 k ad) (Sl.cD aR.2.2.1 a3.1.fr) bv).mono ?_;rintro e aW ⟨R,ba,t,ab,bR,rfl,l,c4,cn,U,m⟩;have I:¬(S.heap.size=s\/S.heap.size=wb):=ad;have ag:=a3.2.1.on m I;have aF:=a3.2.2.2.2.2.2.on m (λh=>by rcases h with h|h<;>(simp only at h;omega));have dm:ba<=L:=l.le;have bH:=hz (a3.1.JA U m) ag l c4 cn m aF;clear l c4 cn U m aF;obtain⟨d0,aQ,aS⟩:=ag.two;clear ag;refine dY hK ?_;clear hK K;refine au rfl (λK hK=>?_);go_simp;refine dY hK ?_;clear hK K;refine pf ?_;refine au rfl (λK hK=>?_);go_simp;refine dY hK ?_;clear hK K;refine pf ?_;refine au rfl (λK hK=>?_);go_simp;refine dY hK ?_;clear hK K;refine aG ?_;generalize hX:World.setCell _ _ _=X;have J:Fr (λb=>b=S.heap.size) aW X:=hX▸((((((Fr.refl (λb=>b=S.heap.size) aW).setCell (.inl rfl) _).setCell (.inl rfl) _).setCell (.inl rfl) _).setCell (.inl rfl) _).setCell (.inl rfl) _).setCell (.inl rfl) _;exact Be
 ):p:=h
theorem wB{p:Prop}(h:p:=by
 have a3:=ah (al.2.2.2.1.aj bB.2.2) (al.1.trans bB.2.2);have c9:=bB.2.2.size;obtain⟨bq,a1,a5⟩:=a3.1.two;obtain⟨e0,a6,ag⟩:=bB.2.1.two;go_wp2_with(fail);generalize hX:World.setCell _ _ _=Z;obtain⟨bm,bd,a4⟩:=a9 (w:=w) [.slice aW ct L,.slice br m S,.slice (some ⟨O,0,none⟩) bk a7,.int .i64 s.fault] (by rfl) a3.1 a3.2 ad hX;have bj:=ah bd a4;clear hX bd a4 bq a1 a5 e0 a6 ag;obtain⟨bq,a1,a5⟩:=bm.two;refine NB (v:=.tuple #[.agg #[.slice aW ct L,.slice br m S,.slice (some ⟨O,0,none⟩) bk a7,.int .i64 s.fault],true]) (by simp[results,Tryz.results51,go_sem,bq]) rfl ?_;exact wC
 ):p:=h
theorem Bf{p:Prop}(h:p:=by
 rintro e aO ⟨rfl,ar⟩;refine dB hK (ar) ?_;clear hK K;refine bt (v:=?_) rfl (by rfl) (λV=>?_) ?_;rotate_left
 .go_simp;exact et
 try simp only[PU]
 refine bt (v:=?_) rfl (by rfl) (λV=>?_) ?_;rotate_left
 .go_simp;exact et
 try simp only[PU]
 exact Bg
 ):p:=h
theorem Bh{p:Prop}(h:p:=by
 have bf:=bY.2.2.lt;have aa:∀b,wr.heap.size<=b->¬(b=s\/b=wb):=λb O h=>ad;have dD:S<=aO.heap.size:=by have:=a3.2.2.2.2.2.1;omega
 have a4:Sl X (fresh S X) cW bh (x.args.map bo):=(a3.2.2.2.2.1.ak λb O=>(J.block b (nI O.2 bH.2.2.2.2.2.1.size) (by have:=O.1;have:wr.drew.heap.size=wr:=rfl;omega)).trans (bH.2.2.2.2.2.1.block b O.2 (aa b O.1))).mono λb O=>⟨by have:=O.1;have:wr.drew.heap.size=wr:=rfl;omega,by have:=O.2;have:=bH.2.2.2.2.2.1.size;have:=J.size;omega⟩
 have cx:Sl X (fresh S X) t ab (dc (.eV R)):=by
  exact Ks
 have a2:Sl X (λb=>S.heap.size<b/\b<X.heap.size) cW bh (x.args.map bo):=(a3.2.2.2.2.1.ak λb O=>(J.block b (nI O.2 bH.2.2.2.2.2.1.size) (by have:=O.1;have:wr.drew.heap.size=wr:=rfl;omega)).trans (bH.2.2.2.2.2.1.block b O.2 (aa b O.1))).mono λb O=>⟨by have:=O.1;have:wr.drew.heap.size=wr:=rfl;omega,by have:=O.2;have:=bH.2.2.2.2.2.1.size;have:=J.size;omega⟩
 have ao:Sl X (λb=>S.heap.size<b/\b<X.heap.size) t ab (dc (.eV R)):=by
  exact Kr
 have aA:=ah a2 ao;clear a2 ao;have H:=bH.1.fresh aR.1 J λb O=>ad;have a5:=bH.2.2.2.2.2.2.on J ad;have aP:=cQ H bE a5 a4 cx;clear hX d0 aQ aS J bE H a5 a4 cx;exact Bi
 ):p:=h
theorem wD{p:Prop}(h:p:=by
 go_enter func79,ntmps79;go_upto_region 8 with(fail);generalize be:World.alloc _ _=W;have aF:=g0 be;have bb:=e5 be;have cl:=eT be;have aR:NJ (Ax w W g A n c T k deep (sQ 0 ⟨#[]⟩ ⟨#[]⟩)):=ae ⟨H.aj aF,aF.mono λ_ h=>h.elim,bb,cl⟩;clear be aF bb cl;go_wp2_with(fail);refine(show Calls prog 40 #[.pointer (some ⟨g,0,none⟩),.string ⟨#[118,97,114]⟩] W _ from cL [118,97,114] g A n c T k deep W aR.ps false (by first|exact bW.1|exact fx bW.1 (by decide)) (λh=>by first|omega|cases h)).mono ?_;rintro e aO ⟨rfl,bh,hF⟩;have H1:=ae (aR.on cv (show bI aO g A n c T (k) deep from by simpa using bh) hF);clear bh hF;clear aR;go_wp2_with(fail);exact wE
 ):p:=h
theorem s8{p:Prop}(h:p:=by
 obtain⟨bP,c5,cC,fs,bv,cr⟩:=h.th;have hs:=bn.ok bh;obtain⟨GA,gn,gc,MA,mn,mc,PA,pn,pc⟩:=p;obtain⟨bI,bU,bx,TA,tn,tc,HA,hn,hc⟩:=q;have ve:hn=s.threads.length:=by have:=hs.at_.h.1;simpa using this.symm
 have cD:bU=s.globals.length:=by have:=hs.at_.g.1;simpa using this.symm
 have wj:tn=s.table.length:=by have:=hs.at_.t.1;simpa using this.symm
 have dr:hn<=1000:=by have:=h.sm.h;omega
 have c7:=h.pc;exact s9
 ):p:=h
theorem Bj{p:Prop}(h:p:=by
 rintro r aO ⟨rfl,O⟩;by_cases hm:0<=bF X e
 case neg=>
  have a3:=ae (show free X T e th=false from qx ad);have al:bF X e<0:=ad;clear hm;exact uB
 obtain⟨k,m,hd,rfl,aj,d,f,P,bm⟩:=hT.at_ hm;rw[P];have ce:k<n2:=by have:=ht.1;omega
 have dS:m<n:=by have:=h.1;omega
 by_cases h0:0<=th
 case neg=>
  have a3:=ae (show free X T k th=false from qx ad);have j:th<0:=ad;clear h0 d f P;exact uB
 obtain⟨b,o,C,rfl,ao,hx,c0,c1⟩:=(ht.fA O).hold ce;obtain rfl:hd=C:=by rw[d] at hx;injection hx
 obtain⟨ct,da,mx,rfl,l,g,d0,d1,d2⟩:=(h.fA O).K4 dS;have bA:=hT.bound hd (M4 d);have ba:Hn X m=mx.re:=by unfold Hn;rw[Np,g];rfl
 have b1:free X T k th=(hd.owner == 0 || (hd.owner == th+1 && mx.re)):=by
  exact I6
 have a3:=ae b1;clear b1 hx g d f P hm ba;by_cases bD:hd.owner=0
 .have a2:=ae bD;exact I4
 have cc:(hd.owner == 0)=false:=by simpa using bD
 exact Bk
 ):p:=h
theorem Bl{p:Prop}(h:p:=by
 refine sK (λb=>b=S.heap.size+1) [14] (.free 0 (.free 1 (.free 2 (.free 6 (.free 7 (.free 8 (.held 9 (.pick [3,10,13] (λi=>bif i == 3 then .held 4 (.free 5 (.pick [10,13] (λi=>bif i == 10 then .free 11 (.free 12 (.pick [13] (λ_=>.pick [14] (λ_=>.stop)))) else .pick [10] (λ_=>.free 11 (.free 12 (.pick [14] (λ_=>.stop))))))) else bif i == 10 then .free 11 (.pick [3,13] (λi=>bif i == 3 then .held 4 (.free 5 (.free 12 (.pick [13] (λ_=>.pick [14] (λ_=>.stop))))) else .pick [3] (λ_=>.held 4 (.free 5 (.free 12 (.pick [14] (λ_=>.stop))))))) else .pick [3,10] (λi=>bif i == 3 then .held 4 (.free 5 (.pick [10] (λ_=>.free 11 (.free 12 (.pick [14] (λ_=>.stop)))))) else .free 11 (.pick [3] (λ_=>.held 4 (.free 5 (.free 12 (.pick [14] (λ_=>.stop)))))))))))))))) ?_
 iterate 6 refine tf ?_
 refine pd ?_;clear a0 ak af;exact Bm
 ):p:=h
theorem Bn{p:Prop}(h:p:=by
 rintro e b6 ⟨⟨bc,ct,L,aZ,m,S,bl,bk,a7⟩,rfl,ca,bf⟩;have cT:=ae ca;have cE:=(al.2.2.2.2.1.aj bw.o).aj bf;have a3:=ah cE ((al.1.trans bw.o).trans bf);clear ca bf bs am aK d0 aQ aS;obtain⟨bq,a1,a5⟩:=cE.two;clear cE;go_wp2_with(fail);generalize hX:World.setCell _ _ _=Z;exact Bo
 ):p:=h
theorem ew{p:Prop}(h:p:=by
 refine au rfl (λK hK=>?_);go_simp;refine dY hK ?_;clear hK K;refine aG ?_;exact c4
 ):p:=h
theorem fO{p:Prop}(h:p:=by
 obtain⟨GA,gn,gc,MA,mn,mc,PA,pn,pc⟩:=p;obtain⟨bI,bU,bx,TA,tn,tc,HA,hn,hc⟩:=q;exact fP
 ):p:=h
theorem Bp{p:Prop}(h:p:=by
 go_wp2_with(fail);refine(show Calls prog 78 #[.pointer (some ⟨g,0,none⟩),.string ⟨#[40]⟩] w _ from ko [40] g A n c T k deep w H.o bW.1 ad).mono ?_;rintro e aO ⟨rfl,bh,hF⟩;have H1:=ah bh hF;clear bh hF;go_wp2_with(fail);refine(show Calls prog 40 #[.pointer (some ⟨g,0,none⟩),.string ⟨#[41]⟩] aO _ from cL [41] g A n c T (k+1) deep aO H1.1 false bW.2.1 (λh=>by cases h)).mono ?_;rintro e aW ⟨rfl,bh,hF⟩;have b1:=ah (show bI aW g A n c T (k+1) deep from by simpa using bh) (H1.2.trans hF);clear bh hF H1;go_wp2_with(fail);generalize hN:r.length=N at *;exact Bq
 ):p:=h
theorem pV{p:Prop}(h:p:=by
 obtain⟨I,bW,aD,e,bR,hs⟩:=aY.1 ba;simp only[List.cons.injEq,Value.int.injEq,Value.string.injEq,Value.slice.injEq,and_true,true_and] at e;obtain⟨rfl,rfl,rfl,rfl,rfl,rfl⟩:=e;exact pW
 ):p:=h
theorem Br{p:Prop}(h:p:=by
 have aF:Ext w (w.alloc (.cells #[false,i,.slice (some ⟨b,o,none⟩) 1 pc] 39)):=NC.alloc _;have d:an (w.alloc (.cells #[false,i,.slice (some ⟨b,o,none⟩) 1 pc] 39)) w 39 #[false,i,.slice (some ⟨b,o,none⟩) 1 pc]:=ND;obtain⟨bd,E,cO,hm,T,e0,e1,e2,e3⟩:=h;obtain⟨ht,bF,bW,rfl,bU,al,f0,f1,f2⟩:=E.Lo cO;have P:bW=m:=by rw[hm] at al;injection al with h;exact h.symm
 subst P;exact Bs
 ):p:=h
theorem Bt{p:Prop}(h:p:=by
 have al:=br aF bX bh (cG.1.on aF);have cZ:=bh.lt;have hl:(bq u s).length=hn:=by rw[fb];exact cG.2
 have bT:=ah hl (mv cG.1.hS);obtain⟨a0,ak,af⟩:=bX.two;obtain⟨bs,am,aK⟩:=bh.two;clear be aF bX bh hl;go_wp2_with(fail);refine(tr u s N W ⟨GA,gn,gc,MA,mn,mc,PA,pn,pc⟩ ⟨bI,bU,bx,TA,tn,tc,HA,hn,hc⟩ al.2.2.2).mono ?_;rintro e aO ⟨A,c,rfl,_,bS,aM⟩;dsimp only at bS ⊢;have H1:=ah bS (al.1.trans aM);exact Bu
 ):p:=h
theorem Bv{p:Prop}(h:p:=by
 have bp:=a3.2.2.2.2;have s:=a3.2.2.1.dm I.size λb O hp=>I.block b O λhm=>by
  exact I5
 have Z:bI Y g A n c T (k+1+3*j+2) deep:=P.1.on bz λb O=>ad;have bB:=ae (And.intro Z (And.intro (Fr.mono (M':=λb=>b=g\/w.heap.size<=b) (Fr.trans (a3.2.1.mono λ_ h=>.inl h) (I.mono λb O=>O)) λb O=>by
  rcases O with O|O
  .exact .inl O
  .exact .inr ad) (And.intro s bM)))
 obtain⟨ci,aH,aK⟩:=bM.two;exact Bw
 ):p:=h
theorem wF{p:Prop}(h:p:=by
 have d0:=Z 0 _ rfl;have d1:=Z 1 _ rfl;have d2:=Z 2 _ rfl;have d3:=Z 3 _ rfl;have d4:=Z 4 _ rfl;have d5:=Z 5 _ rfl;have d6:=Z 6 _ rfl;have d7:=Z 7 _ rfl;have d8:=Z 8 _ rfl;have d9:=Z 9 _ rfl;have d10:=Z 10 _ rfl;simp only[Nd] at d0;exact wG
 ):p:=h
theorem ta{p:Prop}(h:p:=by
 obtain⟨c8,de,db,rfl,c5,cX⟩:=aY.1 aa;have c0:=Z 0 _ rfl;have c1:=Z 1 _ rfl;have c2:=Z 2 _ rfl;have c3:=Z 3 _ rfl;simp only[Nd] at c0;have aZ:b<wr:=O;exact tb
 ):p:=h
theorem fQ{p:Prop}(h:p:=by
 refine aq ?_;refine bP rfl (λK hK=>?_) rfl;go_simp;refine dY hK ?_;clear hK K;exact fC
 ):p:=h
theorem Bx{p:Prop}(h:p:=by
 go_upto_region 1 with(fail);generalize be:World.alloc _ _=W;have aF:=l9 be;have bX:=kB be;have bh:=iL be;have ba:=kC be;have al:=hz aF bX bh ba (hu.on aF) (hs.on aF) (D.on bv (Fr.ext aF));have r:=hT.on aF;obtain⟨a0,ak,af⟩:=bX.two;obtain⟨bs,am,aK⟩:=bh.two;obtain⟨d0,aQ,aS⟩:=ba.two;have Q:=ae r;clear be aF bX bh ba r hT hu hs bv aY hS hU ht hp hx hF x o;go_wp2_with(fail);exact By
 ):p:=h
theorem Bz{p:Prop}(h:p:=by
 obtain⟨c0,ch,bz⟩:=(bB.2.2.aj (bN.2.2.2.trans u)).two;obtain⟨d0,aQ,aS⟩:=da.two;obtain⟨ci,aH,aK⟩:=bY.1.two;clear hC u da i;have c5:¬aW=w.heap.size:=by have:=aP.2.size;omega
 have cE:¬b6=w.heap.size:=by have:=aP.2.size;omega
 refine eJ (λb=>b=w.heap.size) [(0,0),(1,0),(2,1),(3,2)] ?_
 iterate 2 refine oP ?_
 refine aE rfl (λK hK=>?_);go_simp;exact BA
 ):p:=h
theorem BB{p:Prop}(h:p:=by
 clear hX d0 aQ aS HA;go_wp2_with(fail);refine(show Calls prog 78 #[.pointer (some ⟨g,0,none⟩),.string ⟨#[59]⟩] X _ from ko [59] g A n c T (k+1+1) deep X aP.ps bW.2.2.2.2 ad).mono ?_;rintro e cg ⟨rfl,bh,hF⟩;have bj:=ae (aP.on cv bh hF);clear bh hF aP;obtain⟨d0,aQ,aS⟩:=bj.s.two;obtain⟨bq,a1,a5⟩:=bj.r.two;simp only[sQ] at d0;go_wp2_with(fail);generalize hX:World.setCell _ _ _=V;exact BC
 ):p:=h
theorem BD{p:Prop}(h:p:=by
 clear aI;have dk:=bQ.size;go_wp2_with(fail);refine(pK P s ⟨bI,bU,bx,TA,tn,tc,HA,hn,hc⟩ z cO (cc.2.2.IF H.o (al.1.trans bQ.o)) (λb O=>M0 (H.o b O) (al.1.trans bQ.o).size)).mono ?_;rintro e cV ⟨⟨dG,bJ,b7,dn,cz,bp,bY,cE,b8⟩,rfl,ca,bV⟩;have f2:=bV.size;have cT:=ae ca;have a3:=ah (al.2.2.2.1.aj (bQ.trans bV)) ((al.1.trans bQ.o).trans bV);exact BE
 ):p:=h
theorem BF{p:Prop}(h:p:=by
 obtain⟨n,nm,b,o,c,b0,Z,a9,H,ci,cr,cf,bv,T,O,hx,bb,e0,e1,e2,e3,b3,co,bx,e7⟩:=h.rep;injection T with h0 T;injection T with ac T;injection T with az T;injection T with aV T;subst h0 ac az aV;clear T;have cp:=h.ok.1;have aB:lR w G L ng nl g l x [b0,Z,a9,H]:=⟨h.gs,h.ls,h.ok.2.1,hx⟩
 have j:lR w G L ng nl g l y [ci,cr,cf,bv]:=⟨h.gs,h.ls,h.ok.2.2,bb⟩
 exact BG
 ):p:=h
theorem wH{p:Prop}(h:p:=by
 have aR:=h.g;have hm:=h.m;have J:=h.f;have ds:p.globals.length=gn:=by rw[<-aR.1,M5]
 have lm:p.af.length=mn:=by rw[<-hm.1,M5]
 have lf:p.funcs.length=fn:=by rw[<-J.1,M5]
 exact wI
 ):p:=h
theorem I8{p:Prop}(h:p:=by
 generalize co:World.setCell _ _ _=Y;obtain⟨bM,bA,bz⟩:=eg (M:=λb=>b=s) [.int .i64 x.a5,.int .i64 x.numOf,.string x.bw,.slice cW bh cY] (by rfl) bL.o b1.2 (MU _) co;obtain⟨bq,a1,a5⟩:=bM.two;exact BH
 ):p:=h
theorem BI{p:Prop}(h:p:=by
 refine(show Calls prog 40 #[.pointer (some ⟨g,0,none⟩),.string ⟨#[103,111]⟩] aO _ from cL [103,111] g A n c T k deep aO H1.ps false (by first|exact bW.1|exact fx bW.1 (by decide)) (λh=>by first|omega|cases h)).mono ?_;rintro e aW ⟨rfl,bh,hF⟩;have b1:=ae (H1.on cv (show bI aW g A n c T (k) deep from by simpa using bh) hF);clear bh hF;clear H1;go_wp2_with(fail);exact BJ
 ):p:=h
theorem BL{p:Prop}(h:p:=by
 rintro e aO ⟨rfl,bh,hF⟩;have H1:=ay bh (Fr.trans (al.2.1.mono λ_ h=>h.elim) hF) (al.2.2.on hF ad);have ag:w<aO.heap.size:=H1.2.2.lt;clear bh hF;go_upto_region 2 with(fail);generalize hX:World.alloc _ _=X;have aF:=aX hX;have cx:=aL hX;have aP:=br (H1.1.aj aF) (H1.2.1.trans (aF.mono λ_ h=>h.elim)) (H1.2.2.aj aF) cx;clear hX aF cx H1 al;go_wp2_with(fail);exact BM
 ):p:=h
theorem BN{p:Prop}(h:p:=by
 have bk:=ae (show ev g l (.bin op x y)=if (ev g l x).2≠0 then (0,(ev g l x).2) else if op=16/\(ev g l x).1=0 then (0,0) else if op=17/\(ev g l x).1≠0 then (1,0) else if (ev g l y).2≠0 then (0,(ev g l y).2) else if op=16\/op=17 then (fB ((ev g l y).1 != 0),0) else arith op (ev g l x).1 (ev g l y).1 from rfl);generalize ev g l x=r1 at *;obtain⟨v1,f1⟩:=r1;exact BO
 ):p:=h
theorem BP{p:Prop}(h:p:=by
 go_upto_region 1 with(fail);generalize be:World.alloc _ _=W;have aF:=Ko be;have bX:=HS be;have bh:=HT be;have ba:=HU be;have cx:=HV be;have al:=rY aF bX bh ba cx (cc.1.on aF) (cc.2.1.on aF) (cc.2.2.on aF);obtain⟨a0,ak,af⟩:=bX.two;obtain⟨bs,am,aK⟩:=bh.two;obtain⟨d0,aQ,aS⟩:=ba.two;clear be aF bX bh ba cx cc;go_wp2_with(fail);exact BQ
 ):p:=h
theorem BR{p:Prop}(h:p:=by
 obtain⟨j,D,l,rfl,bi,bh,hF,hG⟩:=hrel;obtain⟨t,ht⟩:∃t,r[j]?=some t:=⟨_,List.getElem?_eq_getElem ad⟩
 obtain⟨c8,cq,y⟩:=bh.blk.two;have mL:=hF.size;have cw:g<wr:=bh.blk.lt;have bp:∀b,(Value.slice D j l).ownBlock=some b->w.heap.size<=b/\b<wr.heap.size:=λb O=>hG.lt O;have a3:=cQ bh hF hG ht bp;exact BS
 ):p:=h
theorem BU{p:Prop}(h:p:=by
 refine sK (λ_=>False) [6,11] (.free 0 (.free 1 (.free 2 (.held 3 (.free 4 (.held 5 (.pick [6,10] (λi=>bif i == 6 then .free 7 (.free 8 (.free 9 (.pick [10] (λ_=>.pick [11] (λ_=>.free 12 (.stop)))))) else .pick [6] (λ_=>.free 7 (.free 8 (.free 9 (.pick [11] (λ_=>.free 12 (.stop)))))))))))))) ?_
 iterate 3 refine tf ?_
 refine th ?_;refine tf ?_;refine th ?_;exact BV
 ):p:=h
theorem wJ{p:Prop}(h:p:=by
 try simp only[PU]
 refine cN rfl (by rfl) ?_
 try simp only[PU]
 refine cN rfl (by rfl) ?_
 try simp only[PU]
 refine cN rfl (by rfl) ?_
 try simp only[PU]
 refine ha rfl (by rfl) ?_
 try simp only[PU]
 exact wK
 ):p:=h
theorem BW{p:Prop}(h:p:=by
 have f0:=(aF.cell (j:=o) O (λh=>h)).trans e0;have f1:=(aF.cell (j:=o+1) O (λh=>h)).trans e1;have f2:=(aF.cell (j:=o+2) O (λh=>h)).trans e2;have f3:=(aF.cell (j:=o+3) O (λh=>h)).trans e3;have f:b<W:=M0 O aF.size;have al:=ay aF aT (VE.ED cC.2.2 (Fr.ext aF));obtain⟨a0,ak,af⟩:=aT.two;exact BX
 ):p:=h
theorem BY{p:Prop}(h:p:=by
 have k:=λaI=>ER (s:=s) (nl:=cq.locals) (nk:=f.az.length) aP.1 aP.2.2.1 (Int.le_refl _) aP.2.2.2.2.2 j aI;have ar:=zA (u:=u) (s:=s) (f:=f) j;have m:=ql (u:=u) (s:=s) (f:=f) j;generalize c6 u s f pl=R at *;obtain⟨v,z⟩:=R;simp only at k ar m;have bH:=ay k ar m;exact BZ
 ):p:=h
theorem td{p:Prop}(h:p:=by
 injection T with h0 T;injection T with ac T;injection T with az T;injection T with aV T;subst h0 ac az aV;clear T;exact te
 ):p:=h
theorem B0{p:Prop}(h:p:=by
 go_upto_region 1 with(fail);generalize be:World.alloc _ _=W;have aF:=aX be;have aT:an W w 37 #[(0:Int),(0:Int),NF,()]:=be▸an.gF _ _ _ rfl;have al:=br (H.1.aj aF) (H.2.aj aF) (aF.mono (M':=λb=>b=s) λ_ h=>h.elim) aT;obtain⟨a0,ak,af⟩:=al.1.blk.two;clear be aF aT H;exact B1
 ):p:=h
theorem B2{p:Prop}(h:p:=by
 have cY:C<=Z.drew.heap.size:=by have ac:=a4.size;have hd:Z.drew.heap.size=Z:=rfl;omega
 have bj:=br bd.drew aj (bk.1.on a4 ad).drew bm.drew;clear cA bm bd a4 aj bh aR aZ c0 ch bz d0 aQ aS;obtain⟨bq,a1,a5⟩:=bj.2.2.1.two;obtain⟨F,a6,ba⟩:=bj.2.2.2.two;go_wp2_with(fail);exact B3
 ):p:=h
theorem B4{p:Prop}(h:p:=by
 have cm:=ht.1;have cE:n2<=5000:=by have:=dx hX;have:=hT.len;omega
 have aE:=fp X T e th;have hlen:(n2:Int)=elems X:=by rw[<-gf,<-hT.len,cm]
 generalize aT:c8 X T e th=L at *;obtain⟨bL,b7⟩:=aJ aT hlen;clear aT hlen;rw[cm] at aE;have H:=ae aE;clear aE;exact B5
 ):p:=h
theorem pX{p:Prop}(h:p:=by
 try refine hN _ _ ?_
 unfold l8;refine⟨be,bp,bC,bL,on,bF,?_⟩
 iterate 240 apply Exists.intro
 refine⟨?_,rfl⟩;exact pY
 ):p:=h
theorem B6{p:Prop}(h:p:=by
 generalize hV:World.alloc _ _=V;have ai:=aX hV;have bw:=ae (bk.trans ai);have G:=ae (bL.aj ai);have hC:=aL hV;have bY:=ae hC;have gN:=ae (cc.on (Fr.ext ai));have dv:=ae (bA.on (Fr.ext ai));clear hV a0 ak af c0 c1 c2 aZ bk bL ai cc bA;obtain⟨a0,ak,af⟩:=hC.two;clear hC;exact B7
 ):p:=h
theorem B8{p:Prop}(h:p:=by
 obtain⟨len,hlen,aN⟩:=h.ok;have hx:(∃e,x.expr=some e/\fW (bg u) cq.locals e)/\0<=x.target/\(x.op=1->x.du=true->x.target<u.globals.length)/\(x.op=1->x.du=false->x.target<f.ints.length):=by
  exact Kq
 obtain⟨⟨ex,hex,bi⟩,dv,bF,aY⟩:=hx;exact B9
 ):p:=h
theorem Ca{p:Prop}(h:p:=by
 go_upto_region 1 with(fail);generalize be:World.alloc _ _=W;have aF:=g0 be;have bX:=e5 be;have bh:=eT be;have al:=br aF bX bh (cG.1.on aF);have cZ:=bh.lt;obtain⟨a0,ak,af⟩:=bX.two;obtain⟨bs,am,aK⟩:=bh.two;clear be aF bX bh;go_wp2_with(fail);clear a0 ak af bs am aK;exact Cb
 ):p:=h
theorem nF{p:Prop}(h:p:=by
 go_upto_region 1 with(fail);generalize be:World.alloc _ _=W;have aF:=g0 be;have aT:=e5 be;have cx:=eT be;exact nG
 ):p:=h
theorem wL{p:Prop}(h:p:=by
 unfold eP at h;rw[bK,fE] at h;obtain⟨y,rfl,h⟩:=h;obtain⟨x,cf,rfl,hx,bb⟩:=dL.1 h;unfold gv at hx;rw[bK,cx] at hx;obtain⟨z,rfl,hx⟩:=hx;exact wM
 ):p:=h
theorem Cc{p:Prop}(h:p:=by
 have cZ:=bu 0 _ rfl;simp only[Nd] at cZ;have cw:=bu 1 _ rfl;have bR:=bu 2 _ rfl;have cS:=bu 3 _ rfl;have H:=bu 4 _ rfl;have bS:=bu 5 _ rfl;have cM:=bu 6 _ rfl;have cm:=bu 7 _ rfl;have cp:=bu 8 _ rfl;have cv:=bu 9 _ rfl;have ca:=bu 10 _ rfl;have cb:=bu 11 _ rfl;exact Cd
 ):p:=h
theorem tg{p:Prop}(h:p:=by
 have c5:gn<=16:=by have:=hp.qM;omega
 have cE:mn<=12:=by have:=hp.zX;omega
 have dE:fn<=16:=by have:=hp.Hc;omega
 exact ti
 ):p:=h
theorem Ce{p:Prop}(h:p:=by
 generalize co:World.alloc _ _=Y;have bA:=aX co;have bM:=aL co;have c9:=bM.lt;have a0:=D.aO (λb (O:fresh X aW b)=>bA.block b O.2 λh=>h) _ _ b1.1;have bB:=ay a0 (b1.2.trans bA) bM;obtain⟨ci,aH,aK⟩:=bM.two;clear co bA bM a0;go_wp2_with(fail);exact Cf
 ):p:=h
theorem Cg{p:Prop}(h:p:=by
 obtain⟨hM,J,hG⟩:=h.own hX;obtain⟨GA,gn,gc,MA,mn,mc,FA,fn,fc,aT,cw,bR,cS,H⟩:=h.blk;refine⟨⟨⟨GA,gn,gc,MA,mn,mc,FA,fn,fc,?_,cw,bR,cS.cZ hM,H.cZ hM⟩,⟨h.base.1,Nl h.base.2 hM.fr.size⟩,⟨h.names.1,h.names.2.cZ hM⟩,hG⟩,hM⟩;exact Ch
 ):p:=h
theorem Ci{p:Prop}(h:p:=by
 have a4:=ae (show ev g l (.bin op x y)=if (ev g l y).2≠0 then (0,(ev g l y).2) else if op=16\/op=17 then (fB ((ev g l y).1 != 0),0) else arith op v1 (ev g l y).1 by rw[bk.o];simp only[bC.o,ne_eq,not_true_eq_false,if_false];rw[if_neg bg,if_neg bD]);exact Cj
 ):p:=h
theorem Ck{p:Prop}(h:p:=by
 have ap:(0:Int)<(d:Int):=ad;obtain⟨i,aL⟩:∃i,d=i+1:=⟨d - 1,ad⟩
 have aI:(d:Int) - 1=((i:Nat):Int):=ad;have br:i<=1:=ad;have j:=ah aL aI;clear aL aI;have gR:¬wb=s:=ad;have Z:¬ck=s:=ad;exact Cl
 ):p:=h
theorem Cm{p:Prop}(h:p:=by
 by_cases aV:0<=th
 case neg=>
  have J:heldBy X T k th=false:=kj ad;have bT:=ae (no J);have bZ:=ae J;have l:th<0:=ad;clear aV no J cm d f P hm;go_wp2
  go_ret2
  exact rZ
 have bA:=hT.bound hd (M4 d);exact Cn
 ):p:=h
theorem Co{p:Prop}(h:p:=by
 have bj:=ae bd;clear hX bd a4 bq a1 a5 bs am aK;obtain⟨bq,a1,a5⟩:=bm.two;refine NB (v:=.tuple #[.agg #[.slice bI bU bx,.slice TA tn tc,.slice HA hn hc,.int .i64 s.fault],false]) (by simp[results,Tryz.results51,go_sem,bq]) rfl ?_;exact Cp
 ):p:=h
theorem wN{p:Prop}(h:p:=by
 have a:b2.length=fs.length*4:=by rw[D.hP _ _ h.fr,D.hi (z:=4) (λd hd=>by obtain⟨x,_,rfl⟩:=Ns.1 hd;rfl),M5]
 exact wO
 ):p:=h
theorem Cq{p:Prop}(h:p:=by
 obtain⟨O,bD,ch,cT,n,fc,IA,i,ic,bC,l,lc,e,hT⟩:=hs.at_.top aY ht;simp only at e;subst e;obtain⟨hF,_,_⟩:=hS.top ht;have x:=hF.tJ hp;have o:cK (bg u) cq.locals f.az.length pl:=by rw[x];exact hx
 rw[iO ht];exact Cr
 ):p:=h
theorem Cs{p:Prop}(h:p:=by
 refine eJ (λ_=>False) [(0,3),(1,0),(2,3),(3,3),(4,3),(5,3),(6,3),(7,3),(8,3),(9,3),(10,2)] ?_;refine pf ?_;refine ph ?_
 iterate 5 refine pf ?_
 rw[show IntKind.i64.wrap ((fs.length:Nat):Int)=(fs.length:Int) from IntWalk.i64_in _ ad];exact Ct
 ):p:=h
theorem Cu{p:Prop}(h:p:=by
 have aR:S.grownBy ab (Value.slice A n c).ownBlock:=⟨cS.os,cS.tape,cS.output,by have:=cS.size;simp at this;omega,λk aj bl=>(cS.block k (by simp;omega) bl).trans (Below.heap_alloc S _ k aj)⟩
 obtain⟨I,aD,rfl,hc,_⟩:=bG bR;exact Cv
 ):p:=h
theorem wP{p:Prop}(h:p:=by
 refine ep ?_;refine aq ?_;refine bP rfl (λK hK=>?_) rfl;go_simp;generalize hV:World.alloc _ _=V;have aT:=aL hV;have aC:=aX hV;clear hV;exact wQ
 ):p:=h
theorem Cw{p:Prop}(h:p:=by
 have d0:=(f.cell (p:=⟨b,o,none⟩) O).trans e0;have d1:=(f.cell (p:=⟨b,o+1,none⟩) O).trans e1;have d2:=(f.cell (p:=⟨b,o+2,none⟩) O).trans e2;have d3:=(f.cell (p:=⟨b,o+3,none⟩) O).trans e3;exact Cx
 ):p:=h
theorem Cy{p:Prop}(h:p:=by
 go_wp2;refine eJ (λ_=>False) [(0,3),(1,3),(2,3),(3,3),(4,0),(8,3),(9,0),(10,3),(11,3),(14,3),(5,1),(6,3),(7,3),(12,2),(13,3),(15,3),(16,3),(17,3)] ?_
 iterate 2 refine pf ?_
 refine bt (v:=?_) rfl (by rfl) (λV=>?_) ?_;rotate_left
 .go_simp;exact et
 try simp only[PU]
 refine pf ?_;refine ph ?_;refine pf ?_;refine ph ?_;refine pf ?_;refine bt (v:=?_) rfl (by rfl) (λV=>?_) ?_;rotate_left
 .go_simp;exact et
 try simp only[PU]
 refine pf ?_;refine aE rfl (λK hK=>?_);go_simp;refine(aP.o _ _ _ _ _ _ _ (D.on a6.o (Fr.ext NC.drew)) f.o).mono ?_;rintro e aO ⟨rfl,ar⟩;refine dB hK (ar) ?_;clear hK K;refine bt (v:=?_) rfl (by rfl) (λV=>?_) ?_;rotate_left
 .go_simp;exact et
 try simp only[PU]
 refine bt (v:=?_) rfl (by rfl) (λV=>?_) ?_;rotate_left
 .go_simp;exact et
 try simp only[PU]
 refine au rfl (λK hK=>?_);go_simp;rw[q.o];refine((show h1 th from ay.th) (t+1) A2 n2 c2 _ J.o (Y.on (Fr.ext (Fr.aF ar))) H.o).mono ?_;rintro e aW ⟨rfl,bF⟩;refine dY hK ?_;clear hK K;refine bt (v:=?_) rfl (by rfl) (λV=>?_) ?_;rotate_left
 .go_simp;exact et
 try simp only[PU]
 refine bt (v:=?_) rfl (by rfl) (λV=>?_) ?_;rotate_left
 .go_simp;exact et
 try simp only[PU]
 refine bt (v:=?_) rfl (by rfl) (λV=>?_) ?_;rotate_left
 .go_simp;exact et
 try simp only[PU]
 refine pf ?_;refine aG ?_;have bw:=ae ((Fr.aF ar).trans bF);obtain⟨v0,a1⟩:=Fr.uk bw.o;clear ar bF;exact ym
 ):p:=h
theorem Cz{p:Prop}(h:p:=by
 rintro e aO ⟨rfl,ar⟩;refine dB hK (ar) ?_;clear hK K;refine bt (v:=?_) rfl (by rfl) (λV=>?_) ?_;rotate_left
 .go_simp;exact et
 try simp only[PU]
 refine bt (v:=?_) rfl (by rfl) (λV=>?_) ?_;rotate_left
 .go_simp;exact et
 try simp only[PU]
 exact CM
 ):p:=h
theorem CA{p:Prop}(h:p:=by
 go_wp2_with(fail);generalize hX:World.setCell _ _ _=X;obtain⟨bE,bt,ct⟩:=a9 (w:=w) [(0:Int),(0:Int),(),()] (by rfl) bk.2 bk.1 ad hX;have aP:=ae bt;clear hX bt ct a0 ak af bq a1 a5 bg;exact Kp
 ):p:=h
theorem CB{p:Prop}(h:p:=by
 obtain⟨bq,a1,a5⟩:=bE.two;refine NB (v:=.tuple #[.agg #[(0:Int),(0:Int),(),()],false]) (by simp[results,Tryz.results22,go_sem,bq]) rfl ?_;exact⟨rfl,aP.o⟩
 ):p:=h
theorem nH{p:Prop}(h:p:=by
 refine dY hK ?_;clear hK K;refine pf ?_;exact ew
 ):p:=h
theorem CC{p:Prop}(h:p:=by
 rw[bZ.o];exact fw (B:=V.heap.size) bB.1 bj.2 (λb O=>⟨λhl=>by have:=H.o b hl;omega,ad⟩) (λb O=>by have:=H.o b O;omega) ad bj.1 (by rw[ek bW.2.1])
 ):p:=h
theorem CD{p:Prop}(h:p:=by
 refine eJ (λ_=>False) [(0,3),(1,3),(2,3),(3,0),(4,3),(5,0),(6,3),(7,3),(8,2)] ?_
 iterate 3 refine pf ?_
 refine ph ?_;refine pf ?_;refine ph ?_
 iterate 2 refine pf ?_
 exact ew
 ):p:=h
theorem CE{p:Prop}(h:p:=by
 refine eJ (λb=>b=s) [(0,3),(1,3),(3,3),(4,0),(5,3),(6,3),(7,3),(9,3),(2,1),(8,2),(10,2),(11,3),(12,2),(13,3),(14,2)] ?_
 iterate 3 refine pf ?_
 exact I7
 ):p:=h
theorem CF{p:Prop}(h:p:=by
 have cg:=bY.2.1.on am ad;have bk:=br cx aJ am cg;have cw:=am.size;obtain⟨bh,aR,aZ⟩:=cg.two;clear aF cx aJ am cg ci aH aK;exact ew
 ):p:=h
theorem CG{p:Prop}(h:p:=by
 go_wp2_with(fail);refine(aP.o rs cr b5 rc W ah.o f.o).mono ?_;rintro e aO ⟨rfl,ar⟩;have bw:=ae ar;clear ar;exact ym
 ):p:=h
theorem CH{p:Prop}(h:p:=by
 obtain⟨e0,a6,ag⟩:=aT.two;have bL:=ae aT;clear a0 ak af h he aT hx aM cm;go_wp2_with(fail);exact I8
 ):p:=h
theorem CI{p:Prop}(h:p:=by
 go_wp2;go_roundw
 case rel=>exact⟨k+1,ad,by go_num,a8.o,cb.o⟩
 case measure=>exact aH
 ):p:=h
theorem CJ{p:Prop}(h:p:=by
 rintro a3 dP j eX ⟨aw,ai,bK,fg,bi⟩;obtain⟨b0,a8,bw⟩:=bK.two;exact fQ
 ):p:=h
theorem CK{p:Prop}(h:p:=by
 have dW:O<cJ:=ad
 iterate 2 refine pf ?_
 exact ew
 ):p:=h
theorem CL{p:Prop}(h:p:=by
 refine ph ?_;refine bt (v:=?_) rfl (by rfl) (λV=>?_) ?_;rotate_left
 .go_simp;exact et
 try simp only[PU]
 refine pf ?_;refine ph ?_;refine aE rfl (λK hK=>?_);go_simp;refine(aP.o cR n1 c1 _ (U.on (Fr.ext NC.drew)) f.o ab.o).mono ?_;exact Cz
 ):p:=h
theorem CM{p:Prop}(h:p:=by
 refine pf ?_;refine aG ?_;have bw:=ae (Fr.aF ar);clear ar;exact ym
 ):p:=h
end Go.Proofs.YtnigabjngpnbiabGreat
