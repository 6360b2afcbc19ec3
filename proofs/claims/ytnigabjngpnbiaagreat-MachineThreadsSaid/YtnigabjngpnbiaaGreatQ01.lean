/- Part 1 of the proof. No condition of its own. -/
import Derived.BigQuiet
import Derived.Deep.Cut
import Derived.Deep.DrawnRows
import Derived.Deep.Draws
import Derived.Deep.QuietTactic
import Derived.Deep.RegionHeld3
import Derived.Handy
import Derived.IntWalk
import Derived.Laws.CopyOwn
import Derived.Laws.IdiomStrings
import Derived.Laws.StructEq
import Derived.Lib.Bytes
import Derived.Lib.SlBytesRow
import Derived.Maps.AppendAt
import Derived.OrdersHeld
import Derived.RegionTactic
import Derived.StillTail
import Derived.Test.YtnigabjngpnbiaaGreatRows
import Derived.WalkKit
import Derived.WalkLawsBesides
import Derived.WalkSpells
import Derived.Test.YtnigabjngpnbiaaGreatQ00
namespace Go.Proofs.YtnigabjngpnbiaaGreat
open Go.RowKit Go.Proofs.Tryz
set_option maxRecDepth 1000000
set_option maxHeartbeats 25600000
set_option linter.unusedVariables false
theorem JI:type_of% @Nat.le_refl:=@Nat.le_refl
theorem JJ:type_of% @Nat.lt_of_lt_of_le:=@Nat.lt_of_lt_of_le
theorem JK:type_of% @List.length_append:=@List.length_append
theorem JL:type_of% @List.mem_of_getElem?:=@List.mem_of_getElem?
theorem JM:type_of% @List.length_map:=@List.length_map
theorem JN:type_of% @Int.eq_ofNat_of_zero_le:=@Int.eq_ofNat_of_zero_le
theorem JO:type_of% @List.map_cons:=@List.map_cons
theorem JP:type_of% @List.map_append:=@List.map_append
theorem JQ:type_of% @List.take_of_length_le:=@List.take_of_length_le
theorem JR:type_of% @List.mem_append:=@List.mem_append
theorem JS:type_of% @Nat.add_zero:=@Nat.add_zero
theorem JT:type_of% @List.length_singleton:=@List.length_singleton
theorem JU:type_of% @Bool.and_eq_true:=@Bool.and_eq_true
theorem JV:type_of% @List.length_cons:=@List.length_cons
theorem JW:type_of% @List.append_assoc:=@List.append_assoc
theorem JX:type_of% @List.cons_append:=@List.cons_append
theorem JY:type_of% @List.mem_cons:=@List.mem_cons
theorem JZ:type_of% @Nat.le_trans:=@Nat.le_trans
theorem J0:type_of% @Nat.zero_add:=@Nat.zero_add
theorem J1:type_of% @List.length_nil:=@List.length_nil
theorem J2:type_of% @List.flatMap_cons:=@List.flatMap_cons
theorem J3:type_of% @Int.toNat_natCast:=@Int.toNat_natCast
theorem J4:type_of% @Nat.zero_le:=@Nat.zero_le
theorem J5:type_of% @List.map_nil:=@List.map_nil
theorem J6:type_of% @List.mem_map:=@List.mem_map
theorem J7:type_of% @List.append_nil:=@List.append_nil
theorem J8:type_of% @List.nil_append:=@List.nil_append
theorem J9:type_of% @List.mem_singleton:=@List.mem_singleton
theorem Ka:type_of% @Option.some.injEq:=@Option.some.injEq
theorem Kb:type_of% @List.drop_eq_nil_of_le:=@List.drop_eq_nil_of_le
theorem Kc:type_of% @decide_eq_true_eq:=@decide_eq_true_eq
theorem Kd:type_of% @Bool.false_eq_true:=@Bool.false_eq_true
theorem Ke:type_of% @bodyPost_ret:=@bodyPost_ret
theorem Kf{M:Nat->Prop}{w:World}:Fr M w w:=Fr.refl _ _
theorem Kg{w:World}{t:TypeId}{cs:Array Value}:au (w.alloc (.cells cs t)) w.heap.size t cs:=au.new _ _ _
theorem ad{p:Prop}(h:p:=by omega):p:=h
theorem aC{p q:Prop}(x:q)(h:q->p:=by intro this;omega):p:=h x
theorem BS{p q r:Prop}(x:q)(y:r)(h:q->r->p:=by intro this this;omega):p:=h x y
theorem aI{A B:Prop}(a:A)(b:B):Kl A/\Kl B:=⟨ae a,ae b⟩
theorem eS{A B C:Prop}(a:A)(b:B)(c:C):Kl A/\Kl B/\Kl C:=⟨ae a,ae b,ae c⟩
theorem jF{A B C D:Prop}(a:A)(b:B)(c:C)(d:D):Kl A/\Kl B/\Kl C/\Kl D:=⟨ae a,ae b,ae c,ae d⟩
theorem BG{A B C D E:Prop}(a:A)(b:B)(c:C)(d:D)(e:E):Kl A/\Kl B/\Kl C/\Kl D/\Kl E:=⟨ae a,ae b,ae c,ae d,ae e⟩
theorem Fg{A B C D E F G:Prop}(a:A)(b:B)(c:C)(d:D)(e:E)(f:F)(g:G):Kl A/\Kl B/\Kl C/\Kl D/\Kl E/\Kl F/\Kl G:=⟨ae a,ae b,ae c,ae d,ae e,ae f,ae g⟩
theorem aU{p:Prop}(h:p:=by simp[intOf];omega):p:=h
theorem ak{A B:Prop}(a:A)(b:B):Kl (A/\B):=ae ⟨a,b⟩
theorem av{A B C:Prop}(a:A)(b:B)(c:C):Kl (A/\B/\C):=ae ⟨a,b,c⟩
theorem b9{A B C D:Prop}(a:A)(b:B)(c:C)(d:D):Kl (A/\B/\C/\D):=ae ⟨a,b,c,d⟩
theorem dT{A B C D E:Prop}(a:A)(b:B)(c:C)(d:D)(e:E):Kl (A/\B/\C/\D/\E):=ae ⟨a,b,c,d,e⟩
theorem dq{A B C D E F:Prop}(a:A)(b:B)(c:C)(d:D)(e:E)(f:F):Kl (A/\B/\C/\D/\E/\F):=ae ⟨a,b,c,d,e,f⟩
theorem jE{A B C D E F G:Prop}(a:A)(b:B)(c:C)(d:D)(e:E)(f:F)(g:G):Kl (A/\B/\C/\D/\E/\F/\G):=ae ⟨a,b,c,d,e,f,g⟩
theorem vG{A B C D E F G H:Prop}(a:A)(b:B)(c:C)(d:D)(e:E)(f:F)(g:G)(h:H):Kl (A/\B/\C/\D/\E/\F/\G/\H):=ae ⟨a,b,c,d,e,f,g,h⟩
theorem yq{A B C D E F G H I:Prop}(a:A)(b:B)(c:C)(d:D)(e:E)(f:F)(g:G)(h:H)(i:I):Kl (A/\B/\C/\D/\E/\F/\G/\H/\I):=ae ⟨a,b,c,d,e,f,g,h,i⟩
theorem Hi{A B C D E F G H I J:Prop}(a:A)(b:B)(c:C)(d:D)(e:E)(f:F)(g:G)(h:H)(i:I)(j:J):Kl (A/\B/\C/\D/\E/\F/\G/\H/\I/\J):=ae ⟨a,b,c,d,e,f,g,h,i,j⟩
theorem aY{w W:World}{o1:Obj}(h:w.alloc o1=W):Ext w W:=by subst h;exact Kf.alloc _
theorem jN{w W:World}{o1 dm:Obj}(h:(w.alloc o1).alloc dm=W):Ext w W:=by subst h;exact(Kf.alloc _).alloc _
theorem l6{w W:World}{o1 dm o3:Obj}(h:((w.alloc o1).alloc dm).alloc o3=W):Ext w W:=by subst h;exact((Kf.alloc _).alloc _).alloc _
theorem Hg{w W:World}{o1 dm o3 o4:Obj}(h:(((w.alloc o1).alloc dm).alloc o3).alloc o4=W):Ext w W:=by subst h;exact(((Kf.alloc _).alloc _).alloc _).alloc _
theorem aF{w W:World}{t:TypeId}{cs:Array Value}(h:w.alloc (.cells cs t)=W):au W (w.heap.size) t cs:=by subst h;exact Kg
theorem fQ{w W:World}{dm:Obj}{t:TypeId}{cs:Array Value}(h:(w.alloc (.cells cs t)).alloc dm=W):au W (w.heap.size) t cs:=by subst h;exact(Kg).alloc _
theorem fR{w W:World}{o1:Obj}{t:TypeId}{cs:Array Value}(h:(w.alloc o1).alloc (.cells cs t)=W):au W (w.heap.size+1) t cs:=by subst h;exact au.k5 _ _ _ (by simp)
theorem jV{w W:World}{dm o3:Obj}{t:TypeId}{cs:Array Value}(h:((w.alloc (.cells cs t)).alloc dm).alloc o3=W):au W (w.heap.size) t cs:=by subst h;exact((Kg).alloc _).alloc _
theorem iF{w W:World}{o1 o3:Obj}{t:TypeId}{cs:Array Value}(h:((w.alloc o1).alloc (.cells cs t)).alloc o3=W):au W (w.heap.size+1) t cs:=by subst h;exact(au.k5 _ _ _ (by simp)).alloc _
theorem jD{w W:World}{o1 dm:Obj}{t:TypeId}{cs:Array Value}(h:((w.alloc o1).alloc dm).alloc (.cells cs t)=W):au W (w.heap.size+2) t cs:=by subst h;exact au.k5 _ _ _ (by simp)
theorem Fb{w W:World}{dm o3 o4:Obj}{t:TypeId}{cs:Array Value}(h:(((w.alloc (.cells cs t)).alloc dm).alloc o3).alloc o4=W):au W (w.heap.size) t cs:=by subst h;exact(((Kg).alloc _).alloc _).alloc _
theorem Fc{w W:World}{o1 o3 o4:Obj}{t:TypeId}{cs:Array Value}(h:(((w.alloc o1).alloc (.cells cs t)).alloc o3).alloc o4=W):au W (w.heap.size+1) t cs:=by subst h;exact((au.k5 _ _ _ (by simp)).alloc _).alloc _
theorem Fe{w W:World}{o1 dm o4:Obj}{t:TypeId}{cs:Array Value}(h:(((w.alloc o1).alloc dm).alloc (.cells cs t)).alloc o4=W):au W (w.heap.size+2) t cs:=by subst h;exact(au.k5 _ _ _ (by simp)).alloc _
theorem Ff{w W:World}{o1 dm o3:Obj}{t:TypeId}{cs:Array Value}(h:(((w.alloc o1).alloc dm).alloc o3).alloc (.cells cs t)=W):au W (w.heap.size+3) t cs:=by subst h;exact au.k5 _ _ _ (by simp)
theorem jW{w W:World}{o1:Obj}(h:(w.alloc o1).drew=W):Ext w W:=by subst h;exact(Kf.alloc _).drew
theorem vF{w W:World}{t:TypeId}{cs:Array Value}(h:(w.alloc (.cells cs t)).drew=W):au W (w.heap.size) t cs:=by subst h;exact(Kg).drew
theorem da{w X:World}{g o:Nat}{v:Value}(h:w.setCell ⟨g,o,none⟩ v=X):Fr (λb=>b=g) w X:=by subst h;exact(Fr.refl (λb=>b=g) w).setCell (.inl rfl) _
theorem Hh{w X:World}{g o p:Nat}{v u:Value}(h:(w.setCell ⟨g,o,none⟩ v).setCell ⟨g,p,none⟩ u=X):Fr (λb=>b=g) w X:=by subst h;exact((Fr.refl (λb=>b=g) w).setCell (.inl rfl) _).setCell (.inl rfl) _
theorem Fh{p:Prop}(h:p:=by
 have b6:=ae (K.o bO);clear K ao;go_wp2_with(fail);refine(fa s bP TA HA cg bQ tn tc hn hc aV (ab.2.2.2.2.2.2.1.on aT.o).at_ aJ.sm).mono ?_;rintro e bV ⟨aN,a3,S,aX,bG,aO,xs,F1,F2,bj,bI,rfl,ch,bc,a7⟩;have cb:=av ch bc a7;have cu:=a7.size;clear ch bc a7 b0 am aw d0 aQ aR;go_upto_region 13 with(fail);generalize hV:World.alloc _ _=V;have a9:=aY hV;have b8:=aF hV;have hOut:df aL.heap.size V s bV.heap.size ⟨aN,cg,a3,S,tn,aX,bG,hn,aO⟩ xs F1 F2 bj bI:=
  ⟨cb.1.al λb O=>a9.block b (cb.2.1 b O).2 λh=>h,b8,λO=>by have:=(cb.2.1 _ O).2;omega,λb O=>⟨by have:=(cb.2.1 b O).1;omega,by have:=(cb.2.1 b O).2;have:=a9.size;omega⟩,ad⟩
 have r:Ext W V:=(aT.trans cb.2.2).trans a9;have k:V.ownsRow 0 89 2 (.slice a1 tn aW) tn (T.flatMap bA):=gC (bT (bT b1.1 (Fr.ext cb.2.2)) (Fr.ext a9)) (J4 _);have l:∀b∈bd a1 tn aW,aL.heap.size<=b/\b<aV.heap.size:=λb O=>b1.1.lt b (by simpa using O);have bR:=b9 hOut r k l;obtain⟨e0,bl,bm⟩:=hOut.o.two;clear hV a9 b8 hOut r k l;go_upto_region 14 with(fail);generalize hX:World.setCell _ _ _=X;have cX:df aL.heap.size X {s with table:=T} bV.heap.size ⟨aN,cg,a3,a1,tn,aW,bG,hn,aO⟩ xs F1 (bd a1 tn aW) bj bI:=
  bR.1.G6 bR.2.2.1 b1.2 (λb O=>⟨λhm=>by have:=(cb.2.1 b hm).1;have:=(bR.2.2.2 b O).2;omega,by have:=(bR.2.2.2 b O).2;omega,(bR.2.2.2 b O).1⟩) hX
 have bM:=da hX;have ca:Ext W X:=Fr.low (M:=λb=>b=bV.heap.size) (Fr.trans (Fr.mono bR.2.1 λ_ h=>h.elim) bM) λb O=>ad;obtain⟨c1,dx,i2,cN,dd,dp,di,c0,bZ,be,P⟩:=cX.top (fs:=fs) (f:=f) br.2.2.1 br.2.1 br.1 br.2.2.2.1;have Q:=av be P ca;clear e0 bl bm;obtain⟨e0,bl,bm⟩:=cX.o.two;clear hX cX bM ca be P c0 bZ;go_wp2_with(fail);refine(Q.1 X Kf).mono ?_;rintro e cE ⟨rfl,aA⟩;have aK:=ae (Q.2.1 cE aA);have b4:=ae (Q.2.2.trans aA);clear e0 bl bm aA;have bX:=aK.c1;have g2:=aK.fz;have cv:=aK.lt;have cR:=cw.2.2.1;go_upto_region 15 with(fail);generalize hX:World.setCell _ _ _=Y;have cK:qK aL.heap.size Y {s with table:=T,threads:=s.threads.set t.toNat (fs++[next f])} bV.heap.size ⟨aN,cg,a3,a1,tn,aW,bG,hn,aO⟩ xs F1 (bd a1 tn aW) bj bI t fs (next f) c1 dx i2 cN dd dp di:=hX▸aK.H2 br.2.2.1 (f.pc+1);have L:=da hX;have dD:=aK.ge;have cS:Ext W Y:=Fr.low (M:=λb=>b=c1) (Fr.trans (Fr.mono b4.o λ_ h=>h.elim) L) λb O=>ad;have bw:=av cK.oz (ab.2.2.2.2.1.aj cS) (ab.1.trans cS);obtain⟨bh,an,aM⟩:=bw.2.1.two;obtain⟨e0,bl,bm⟩:=cK.oz.o.two;clear hX cK L cS bX g2 cv aK;go_wp2_with(fail);generalize hX:World.setCell _ _ _=Z;obtain⟨bq,a5,a4⟩:=bk (w:=w) [.slice aN cg a3,.slice a1 tn aW,.slice bG hn aO,.int .i64 s.fault] (by rfl) bw.2.1 bw.2.2 ad hX;have i:=ak a5 a4;clear hX a5 a4 bh an aM e0 bl bm;obtain⟨bh,an,aM⟩:=bq.two;refine Ke (v:=.tuple #[.agg #[.slice aN cg a3,.slice a1 tn aW,.slice bG hn aO,.int .i64 s.fault],.bool true]) (by simp[results,Tryz.results25,go_sem,bh]) rfl ?_;rw[b6.o]
 show cH lO w {bg s t (next f) with table:=T} true _ _
 exact gi (aB:={bg s t (next f) with table:=T}) (q:=⟨aN,cg,a3,a1,tn,aW,bG,hn,aO⟩) bw.1 i.2 (λb O=>ad) ad i.1 (by rw[dG br.2.2.1])
 ):p:=h
theorem dK{p:Prop}(h:p:=by
 rw[if_neg (by first|omega|(simp only[ByteArray.size_append];omega)|(simp;omega))]
 ):p:=h
theorem Fi{p:Prop}(h:p:=by
 have cX:=b9 s i x bN.2.2;clear s i x cD aQ aR;have dj:=cX.2.1.size;by_cases y:j+1<N
 .refine(show Calls prog 50 #[.pointer (some ⟨g,0,none⟩),.string ⟨#[44]⟩] cy _ from aW [44] g A n c T (k+1+3*j+2) deep cy cX.1 true (by rw[br.2.2.co j ad];exact decide_eq_true ad) (λ_=>ad)).mono ?_;rintro e cJ ⟨rfl,S,f⟩;have ab:=av (show aH cJ g A n c T (k+1+3*(j+1)) deep from by rw[show k+1+3*(j+1)=k+1+3*j+2+1 by omega];simpa using S) (cX.2.1.trans f) (cX.2.2.1.eQ f λb O _=>⟨ad,ad⟩);clear S f;go_wp2_with(fail);go_roundw
  case rel=>exact⟨j+1,bU,c3,rfl,y,ab.o⟩
  case measure=>simp[um];omega
 .refine(show Calls prog 50 #[.pointer (some ⟨g,0,none⟩),.string ⟨#[44]⟩] cy _ from aW [44] g A n c T (k+1+3*j+2) deep cy cX.1 false (by rw[br.2.2.co j ad];exact decide_eq_false ad) (λh=>by cases h)).mono ?_;rintro e cJ ⟨rfl,S,f⟩;have ab:=av (show aH cJ g A n c T (k+1+3*j+2) deep from by simpa using S) (cX.2.1.trans f) (cX.2.2.1.eQ f λb O _=>⟨ad,ad⟩);clear S f;go_wp2_with(fail);refine(show Calls prog 103 #[.pointer (some ⟨g,0,none⟩),.string ⟨#[41]⟩] cJ _ from eZ [41] g A n c T (k+1+3*j+2) deep cJ ab.1 (br.2.2.cl j ad) ad).mono ?_;rintro e fN ⟨rfl,S,q⟩;have P:=ab.2.2.eQ q λb O _=>⟨ad,ad⟩
  have V:=av (show aH fN g A n c T (k+1+3*N) deep from by rw[show k+1+3*N=k+1+3*j+2+1 by omega];exact S) (ab.2.1.trans q) P;clear S q P;go_wp2_with(fail);go_ret;refine⟨bU,j+1,c3,rfl,cX.2.2.2,by rw[bo];exact V.1,V.2.1,?_⟩;have hG:=V.2.2;rw[JQ ad] at hG;exact hG.sl (λb aq O=>⟨O,aq⟩) (λb aq O=>⟨O,aq⟩)
 ):p:=h
theorem Fj{p:Prop}(h:p:=by
 go_upto_region 24 with(fail);generalize bu:World.alloc _ _=A;have n:=aY bu;have bs:=aF bu;have r:=b4.trans n;have H:=av (RO.aj aJ.1 r) (aJ.2.1.trans r) (aJ.2.2.trans r);have ap:=ak bs n;have be:=n.size;have dI:=b4.size;have aj:=ae H.2.2;clear bu n r;obtain⟨b0,am,aw⟩:=(ab.2.2.1.aj H.2.2).two;obtain⟨d0,aQ,aR⟩:=(bN.aj H.2.1).two;obtain⟨e0,bl,bm⟩:=H.1.o.two;obtain⟨a8,k,flb,Q,J,c0,c1,c2,c3,aT⟩:=H.1.top;obtain⟨f0,cQ,cV⟩:=bs.two;clear bs;have dc:=aj.size;go_wp2_with(fail);refine(nC P s ⟨bP,cg,bQ,TA,tn,tc,HA,hn,hc⟩ z A (bR.2.2.FZ G.o (ab.1.trans aj.o)) (λb O=>JJ (G.o b O) (ab.1.trans aj.o).size)).mono ?_;rintro e cy ⟨⟨dD,cW,cx,bI,bZ,bT,bK,bj,ck⟩,rfl,b2,b5⟩;have dj:=b5.size;have cT:=ae b2;have a2:=ak (ab.2.2.2.1.aj (aj.trans b5)) ((ab.1.trans aj.o).trans b5);clear b2 b5 f0 cQ cV d0 aQ aR e0 bl bm c0 c1 c2 c3 J flb Q a8 k aT b0 am aw;obtain⟨bh,an,aM⟩:=a2.1.two;go_wp2_with(fail);generalize hX:World.setCell _ _ _=Z;obtain⟨bq,a5,a4⟩:=bk (w:=w) [.slice dD cW cx,.slice bI bZ bT,.slice bK bj ck,.int .i64 z] (by rfl) a2.1 a2.2 ad hX;have bn:=ak a5 a4;clear hX a5 a4 bh an aM;obtain⟨bh,an,aM⟩:=bq.two;refine Ke (v:=.tuple #[.agg #[.slice dD cW cx,.slice bI bZ bT,.slice bK bj ck,.int .i64 z],.bool true]) (by simp[results,Tryz.results29,go_sem,bh]) rfl ?_;rw[b6.o];exact eE (B:=A.heap.size) (aB:={s with fault:=z}) cT.o bn.2 (λb O=>⟨λhl=>by have:=G.o b hl;omega,ad⟩) (λb O=>by have:=G.o b O;omega) ad bn.1 rfl
 ):p:=h
theorem Fk{p:Prop}(h:p:=by
 rintro r aL ⟨rfl,bY⟩;have ag:Ext w aL:=ar.trans (Fr.of bY);obtain⟨p0,J,x⟩:=(c.aj (Fr.of bY)).two;have c9:=(ag.cell (j:=bw+i*3+2) cb (λh=>h)).trans f2;have bs:=ae ag;clear ar ag c e0 e1 e2 e3 f0 f1 f2 cX cp bY;generalize ev g l e=r at *;obtain⟨v,f⟩:=r;by_cases aA:f=0
 case neg=>
  have q5:(f != 0)=true:=by simpa using aA
  have b2:=ae (show idx aR.size (v,f)=(0,f) by unfold idx;rw[if_pos aA]);clear aA;go_wp2
  go_ret2
  exact fx.mk' b2.o (Fr.ext bs.o)
 have q5:(f != 0)=false:=by simpa using aA
 by_cases bD:v<0
 .have dl:decide (v<0)=true:=by simpa using bD
  have b2:=ae (show idx aR.size (v,f)=(0,2) by unfold idx;rw[if_neg (by simpa using aA),if_pos (.inl bD)]);clear aA bD;go_wp2
  go_ret2
  exact fx.mk' b2.o (Fr.ext bs.o)
 have dl:decide (v<0)=false:=by simpa using bD
 by_cases F:aR.size<=v
 .have q7:decide (v>=aR.size)=true:=by simpa using F
  have b2:=ae (show idx aR.size (v,f)=(0,2) by unfold idx;rw[if_neg (by simpa using aA),if_pos (.inr F)]);clear aA bD F;go_wp2
  go_ret2
  exact fx.mk' b2.o (Fr.ext bs.o)
 .have q7:decide (v>=aR.size)=false:=by simpa using F
  have b2:=ae (show idx aR.size (v,f)=(v,0) by unfold idx;rw[if_neg (by simpa using aA),if_neg ad]);clear aA bD F;go_wp2
  go_ret2
  exact fx.mk' b2.o (Fr.ext bs.o)
 ):p:=h
theorem Fl{p:Prop}(h:p:=by
 rintro e aV ⟨j,cW,cx,k,e7,e6,l,n,m,rfl,bY,aO⟩;have bO:=ak bY (aJ.2.trans aO);have bz:=aO.size;clear bY aO bl U aE;go_upto_region 3 with(fail);generalize cm:World.alloc _ _=Y;have ce:=aY cm;have bA:=aF cm;have cS:=bO.2.trans ce;have bw:=av ce (ab.2.aj cS) (ab.1.trans cS);obtain⟨cD,aQ,aR⟩:=bA.two;obtain⟨bh,an,aM⟩:=bw.2.1.two;clear cm ce bA cS;go_wp2_with(fail);generalize hX:World.setCell _ _ _=Z;obtain⟨bq,a5,a4⟩:=bk (w:=w) [.slice j cW cx,.slice k e7 e6,.slice l n m,.int .i64 (hY p).main] (by rfl) bw.2.1 bw.2.2 (JI _) hX;have bx:(⟨j,cW,cx,k,e7,e6,l,n,m⟩:UV).Ok Z (hY p):=by
  refine IH (P:=fresh X aV) (D.aD (λb O=>(a4.block b (BS bw.1.size O.2) (BS aJ.2.size O.1)).trans (bw.1.block b O.2 λh=>h)) _ _ bO.1) λb O=>by have:=a4.size;have:=bw.1.size;have:=O.2;omega
 have bn:=ak bx a5;clear hX a5 a4 bh an aM cD aQ aR bx;obtain⟨bh,an,aM⟩:=bq.two;refine Ke (v:=.agg #[.slice j cW cx,.slice k e7 e6,.slice l n m,.int .i64 (hY p).main]) (by simp[results,Tryz.results5,go_sem,bh]) rfl ?_;exact⟨⟨j,cW,cx,k,e7,e6,l,n,m⟩,rfl,bn.1,bn.2⟩
 ):p:=h
theorem Ch{p:Prop}(h:p:=by
 rintro e aV ⟨bb,rfl,H,aO⟩;have bO:=ak H (bd.1.trans aO);clear H aO
 cases bb with
 | true=>
  go_wp2_with(fail);go_ret
  exact⟨(i:Int),rfl,⟨λ_=>⟨_,JL br.o,bO.1.1 (by first|rfl|trivial)⟩,λ_=>ad⟩,bO.2⟩
 | false=>
  go_wp2_with(fail);go_roundw
  case rel=>
   refine⟨i+1,by go_num,ad,bO.2,λj x be hx=>?_⟩;by_cases ag:j<i
   .exact bd.2 j x ag hx
   .obtain rfl:j=i:=ad;rw[br.o] at hx;injection hx with hx;subst hx;exact λh=>by have:=bO.1.2 h;first|cases this|exact this
  case measure=>exact aU
 ):p:=h
theorem Fm{p:Prop}(h:p:=by
 clear hc y t s ch;go_wp2_with(fail);refine(show Calls prog 50 #[.pointer (some ⟨g,0,none⟩),.string ⟨#[125]⟩] wr _ from aW [125] g A n c T j (deep+1) wr a2.1 true bK.1 (λ_=>by have:=bK.2.1;have:=a2.1.kH.1;omega)).mono ?_;rintro e bV ⟨rfl,S,hF⟩;have cb:=ak (show aH bV g A n c T (j+1) (deep+1) from by simpa using S) hF;clear S hF a0 al af;obtain⟨a0,al,af⟩:=cb.1.blk.two;go_upto_region 9 with(fail);generalize hX:World.setCell _ _ _=X;have aA:=da hX;have aK:au X g 110 #[.slice A n c,.int .i64 ((j+1:Nat):Int),.int .i64 0,.int .i64 0,.int .i64 0,.int .i64 (deep:Int)]:=hX▸cb.1.blk.bH 5 (.int .i64 (deep:Int));have ax:Fr (λb=>b=g) wr X:=cb.2.trans aA;have aJ:=av (show aH X g A n c T (j+1) deep from ⟨aK,cb.1.kH.ep (aA.below (aC cb.1.blk.lt) λb O hm=>ad),cb.1.lt,L⟩) (a2.2.1.trans ax) (a2.2.2.1.eQ ax λb O _=>⟨ad,ad⟩);clear hX aA aK ax a0 al af cb;go_wp2_with(fail);go_ret;refine⟨Q,on,P,rfl,aJ.2.2.cap.1,?_,by rw[bK.2.2.2];exact aJ.1,aJ.2.1⟩;have cl:=a2.2.2.2;rw[bK.2.2.1,J7] at cl;rw[<-cl];exact aJ.2.2.sl (λb O hp=>⟨hp,O⟩) λb O hp=>⟨hp,O⟩
 ):p:=h
theorem vH{p:Prop}(h:p:=by
 go_wp2;go_roundw
 case rel=>exact⟨k+1,ad,by go_num,by rw[<-S.o],bd.trans (Y.trans bs.o)⟩
 case measure=>exact aU
 ):p:=h
theorem Fo{p:Prop}(h:p:=by
 by_cases cl:hd.depth - 1=0
 .have K:(hd.depth - 1 == 0)=true:=by simpa using cl
  have cX:=ae cl;clear cl;go_wp2
  go_ret2
  refine fV.mk' (A:=some ⟨g,0,none⟩) (c:=c1) (n:=n2) I.o ?_ ?_ b6.o
  .rw[bW.o,down,if_pos cX.o];have v:(T.set k ⟨hd.owner,hd.depth - 1⟩)[k]?=some ⟨hd.owner,hd.depth - 1⟩:=by rw[List.getElem?_set_self ad]
   obtain⟨ak,j,_,_,_,_,_,am,_⟩:=iU J.o aT v;injection j with j;injection j with j;subst j;have:=am 0;rw[List.set_set] at this;exact this
  .exact(O.setCell (by simpa using aS) _).setCell (by simpa using aS) _
 .have K:(hd.depth - 1 == 0)=false:=by simpa using cl
  have cX:=ae cl;clear cl;go_wp2
  go_ret2
  refine fV.mk' (A:=some ⟨g,0,none⟩) (c:=c1) (n:=n2) I.o ?_ ?_ b6.o
  .rw[bW.o,down,if_neg cX.o];exact J.o
  .exact O.setCell (by simpa using aS) _
 ):p:=h
theorem Fp{p:Prop}(h:p:=by
 have b6:=ae (K.o bO);have a2:=ak (ab.2.2.2.1.aj bw.2.2) (ab.1.trans bw.2.2);have di:=bw.2.2.size;obtain⟨bh,an,aM⟩:=a2.1.two;obtain⟨e0,bl,bm⟩:=bw.2.1.two;go_wp2_with(fail);generalize hX:World.setCell _ _ _=Z;obtain⟨bq,a5,a4⟩:=bk (w:=w) [.slice b7 aU a3,.slice a1 tn aW,.slice (some ⟨O,0,none⟩) cd aO,.int .i64 s.fault] (by rfl) a2.1 a2.2 ad hX;have bn:=ak a5 a4;clear hX a5 a4 bh an aM e0 bl bm;obtain⟨bh,an,aM⟩:=bq.two;refine Ke (v:=.tuple #[.agg #[.slice b7 aU a3,.slice a1 tn aW,.slice (some ⟨O,0,none⟩) cd aO,.int .i64 s.fault],.bool true]) (by simp[results,Tryz.results29,go_sem,bh]) rfl ?_;exact Ar
 ):p:=h
theorem Fq{p:Prop}(h:p:=by
 have a2:=ak (ab.2.2.2.1.aj bw.2.2) (ab.1.trans bw.2.2);have di:=bw.2.2.size;obtain⟨bh,an,aM⟩:=a2.1.two;obtain⟨e0,bl,bm⟩:=bw.2.1.two;go_wp2_with(fail);generalize hX:World.setCell _ _ _=Z;obtain⟨bq,a5,a4⟩:=bk (w:=w) [.slice b7 aU a3,.slice bW m aX,.slice (some ⟨O,0,none⟩) cd aO,.int .i64 s.fault] (by rfl) a2.1 a2.2 ad hX;have bn:=ak a5 a4;clear hX a5 a4 bh an aM e0 bl bm;obtain⟨bh,an,aM⟩:=bq.two;refine Ke (v:=.tuple #[.agg #[.slice b7 aU a3,.slice bW m aX,.slice (some ⟨O,0,none⟩) cd aO,.int .i64 s.fault],.bool true]) (by simp[results,Tryz.results29,go_sem,bh]) rfl ?_;rw[b6.o];exact eE (B:=V.heap.size) bw.1 bn.2 (λb O=>⟨λhl=>by have:=G.o b hl;omega,ad⟩) (λb O=>by have:=G.o b O;omega) ad bn.1 (by rw[dG br.2.1,List.set_set];rfl)
 ):p:=h
theorem vI{p:Prop}(h:p:=by
 have a2:=ae (show decide (S=T)=true from decide_eq_true (by
  apply List.ext_getElem?
  intro j;by_cases be:j<k
  .exact ay.o j be
  .rw[List.getElem?_eq_none (aC bW.o),List.getElem?_eq_none (aC Q.o)]))
 go_wp2;go_ret;exact⟨ret_bool (by rw[a2.o]),O⟩
 ):p:=h
theorem Fs{p:Prop}(h:p:=by
 have F:(0:Int)<=(k:Int):=ad;have bI:(k:Int)<(n:Int):=ad;by_cases hd:x=e
 .have aJ:=ae (show S[k]?=T[k]? by rw[hx,d,hd]);have D:(x != e)=false:=by simp[hd]
  exact Ao
 .have a2:=ae (show decide (S=T)=false from decide_eq_false (λh=>by
   subst h;rw[hx] at d;injection d with d;exact hd d))
  have D:(x != e)=true:=by simp[hd]
  exact Aw
 ):p:=h
theorem Ci{p:Prop}(h:p:=by
 exact Ar
 ):p:=h
theorem Ft{p:Prop}(h:p:=by
 exact Ao
 ):p:=h
theorem Fu{p:Prop}(h:p:=by
 clear h;go_enter func114,ntmps114;go_upto_region 1 with(fail);generalize ba:World.alloc _ _=W;have ar:=jN ba;have aK:=fQ ba;have cq:=fR ba;obtain⟨a0,al,af⟩:=aK.two;obtain⟨bh,an,aM⟩:=cq.two;have bd:=ak ar cq;clear ba ar aK cq;go_wp2_with(fail);generalize hX:World.setCell _ _ _=X;obtain⟨a6,bf,y⟩:=bk (w:=w) [.int .i64 0,.int .i64 0,.slice none 0 0,.slice none 0 0] (by rfl) bd.2 bd.1 ad hX;have aJ:=ae bf;clear hX bf y a0 al af bh an aM;exact Aq
 ):p:=h
theorem Fv{p:Prop}(h:p:=by
 obtain⟨bh,an,aM⟩:=a2.1.two;go_wp2_with(fail);generalize hX:World.setCell _ _ _=Z;obtain⟨bq,a5,a4⟩:=bk (w:=w) [.slice dD cW cx,.slice bI bZ bT,.slice bK bj ck,.int .i64 z] (by rfl) a2.1 a2.2 ad hX;have bn:=ak a5 a4;clear hX a5 a4 bh an aM;obtain⟨bh,an,aM⟩:=bq.two;refine Ke (v:=.tuple #[.agg #[.slice dD cW cx,.slice bI bZ bT,.slice bK bj ck,.int .i64 z],.bool true]) (by simp[results,Tryz.results29,go_sem,bh]) rfl ?_;rw[b6.o];exact eE (B:=cE.heap.size) (aB:={s with fault:=z}) cT.o bn.2 (λb O=>⟨λhl=>by have:=G.o b hl;omega,ad⟩) (λb O=>by have:=G.o b O;omega) ad bn.1 rfl
 ):p:=h
theorem Hj{p:Prop}(h:p:=by
 exact Aq
 ):p:=h
theorem Fw{p:Prop}(h:p:=by
 have c0:=Z 0 cD rfl;have c1:=Z 1 b5 rfl;have c2:=Z 2 b3 rfl;have c3:=Z 3 bA rfl;simp only[JS] at c0;have aN:b<wr.heap.size:=O;clear Z O;obtain⟨B,bE,bc,e,cp,G⟩:=bj.1 P;simp only[List.cons.injEq,and_true] at e;obtain⟨rfl,rfl,rfl,rfl⟩:=e;obtain⟨bw,M⟩:=aI aa P;clear aa P G;go_wp2_with(fail);refine(b2.o k z bw.o _ _ _ _ _ _ wr M.o).mono ?_;rintro e aV ⟨rfl,H⟩;have aT:=ae (bd.trans H);have bt:=ae (bL.aj H);clear H;exact Ax
 ):p:=h
theorem Fx{p:Prop}(h:p:=by
 rintro e aV ⟨bb,rfl,H,aO⟩;have bO:=ak H ((bd.1.trans bw.o).trans aO);clear H aO bl U aE cD aQ aR
 cases bb with
 | false=>
  go_wp2_with(fail);go_ret;refine⟨false,rfl,⟨λh=>(by cases h),λh=>?_⟩,bO.2⟩;have ac:=br.1;rw[h,br.2] at ac;injection ac with ac
  exact bO.1.2 ac.symm
 | true=>
  go_wp2_with(fail);go_roundw
  case rel=>
   refine⟨i+1,by go_num,ad,bO.2,λj be=>?_⟩;by_cases ag:j<i
   .exact bd.2 j ag
   .obtain rfl:j=i:=ad;rw[br.1,br.2,bO.1.1 (by first|rfl|trivial)]
  case measure=>exact aU
 ):p:=h
theorem Fy{p:Prop}(h:p:=by
 go_wp2_with(fail);refine(show Calls prog 103 #[.pointer (some ⟨g,0,none⟩),.string ⟨#[40]⟩] w _ from eZ [40] g A n c T k deep w H.o br.1 ad).mono ?_;rintro e aL ⟨rfl,S,hF⟩;have H1:=ak S hF;clear S hF;go_wp2_with(fail);refine(show Calls prog 50 #[.pointer (some ⟨g,0,none⟩),.string ⟨#[41]⟩] aL _ from aW [41] g A n c T (k+1) deep aL H1.1 true br.2 (λ_=>ad)).mono ?_;rintro e aV ⟨rfl,S,hF⟩;have bO:=ak (show aH aV g A n c T (k+2) deep from by simpa using S) (H1.2.trans hF);clear S hF H1;go_wp2_with(fail);go_ret;exact⟨rfl,bO.o⟩
 ):p:=h
theorem Cj{p:Prop}(h:p:=by
 clear ar aZ;go_wp2_with(fail);go_ret;refine⟨-1,rfl,⟨λh=>ad,λ⟨x,hx,hp⟩=>?_⟩,bd.1⟩;obtain⟨j,be⟩:=List.getElem?_of_mem hx;exact absurd hp (bd.2 j x (by have:=(List.getElem?_eq_some_iff.1 be).1;have:=bN.1;omega) be)
 ):p:=h
theorem Fz{p:Prop}(h:p:=by
 refine fV.mk' (A:=some ⟨g,0,none⟩) (c:=c1) (n:=n2) I.o ?_ ?_ b6.o
 .rw[bW.o];have v:(T.set k ⟨th+1,hd.depth⟩)[k]?=some ⟨th+1,hd.depth⟩:=by rw[List.getElem?_set_self ad]
  obtain⟨ak,j,_,_,_,_,_,_,s1⟩:=iU q.o aT v;injection j with j;injection j with j;subst j;have:=s1 (hd.depth+1);rw[List.set_set] at this;exact this
 .exact(l.setCell (by simpa using aS) _).setCell (by simpa using aS) _
 ):p:=h
theorem Ck{p:Prop}(h:p:=by
 go_wp2_with(fail);refine b2.mono ?_;rintro e aV ⟨r,rfl,aZ,aO⟩;have bO:=ak aZ aO;clear aZ aO;go_wp2_with(fail);go_ret;exact⟨decide (r>=0),rfl,⟨λh=>bO.1.1 (of_decide_eq_true h),λh=>decide_eq_true (bO.1.2 h)⟩,bO.2⟩
 ):p:=h
theorem FB{p:Prop}(h:p:=by
 rw[aX br.o,oN,<-List.append_assoc,JP,aN];have ac:=(bb.ek (J:=X) bM.size λb aq hp=>bM.block b aq λhe=>by
  subst he;rcases hp with hp|hp
  .exact hp.elim
  .exact bj.1 hp).ek (J:=cD) av.size λb aq hp=>av.block b aq λhe=>by
  subst he;rcases hp with hp|hp
  .exact hp.elim
  .exact bj.2 hp
 show Gr (λ_=>False) W.heap.size 133 3 cD bg (ln+k+1) c2 _
 simpa using ac
 ):p:=h
theorem FC{p:Prop}(h:p:=by
 go_wp2_with(at_builtin;refine eA aV Gv rfl (.tmp 28) (.tmp 30) rfl (w.heap.size+1) _ k _ #[_] rfl av.o rfl rfl (by simp[Value.oneCell']) ad ad G ?_;intro ax bV f dw aD;obtain⟨bU,c3,rfl,bk,_⟩:=cj f);go_roundw
 case rel=>
  refine⟨k+1,ad,by go_num,r.on (GB av.o dw λg aS=>aS),?_⟩;rw[vh U.o,<-S.o];exact f
 case measure=>exact aU
 ):p:=h
theorem Hk{p:Prop}(h:p:=by
 obtain⟨cZ,aH,_,bO,_⟩:=h.hF.ex;rw[h.hp] at aH;injection aH with aH;subst aH;rcases I with⟨ac,ap,aD,bt,cl⟩|⟨ac,_⟩|⟨ac,_⟩|⟨ac,_,ap,aD,bt⟩|⟨ac,_⟩|⟨ac,_⟩
 .exact⟨ap,aD,λ_ aS=>by have:=bt aS;simpa[bp] using this,λ_ aS=>by have:=cl aS;omega⟩
 .omega
 .omega
 .exact⟨ap,aD,λh=>ad,λh=>ad⟩
 .omega
 .omega
 ):p:=h
theorem FD{p:Prop}(h:p:=by
 by_cases ac:op=16
 .refine .inl ⟨by simpa using ac,?_,by simp;omega⟩;have:v1≠0:=λan=>bE ⟨ac,an⟩;simpa using this
 .by_cases ap:op=17
  .refine .inr (.inl ⟨by simpa using ac,by simpa using ap,?_⟩);by_cases bD:v1=0
   .simpa using bD
   .exact absurd ⟨ap,bD⟩ bb
  .exact .inr (.inr ⟨by simpa using ac,by simpa using ap⟩)
 ):p:=h
theorem FE{p:Prop}(h:p:=by
 rintro bc bm ⟨rfl,L⟩;have aO:=ae (I.trans L);have a3:=ae (aP.trans L);have bv:=ae (ah.aj L);have bK:=ae (bK.aj L);clear a0 al af I aP ah;obtain⟨a0,al,af⟩:=bK.two;clear a0 al af;obtain⟨a0,al,af⟩:=bK.two;go_wp2;go_roundw
 case rel=>exact⟨j+1,ad,by go_num,aO.o,a3.o,bv.o⟩
 case measure=>exact aU
 ):p:=h
theorem Cl{p:Prop}(h:p:=by
 constructor
 .rintro⟨y,rfl,h⟩;rw[bm] at h;obtain⟨b3,rfl,h⟩:=h;rw[aS] at h;subst h;rfl
 .rintro rfl;exact⟨_,rfl,bm.2 ⟨_,rfl,aS.2 rfl⟩⟩
 ):p:=h
theorem Cm{p:Prop}(h:p:=by
 go_wp2;go_ret;exact⟨ret_bool (by rw[a2.o]),O⟩
 ):p:=h
theorem r3{p:Prop}(h:p:=by
 go_enter func27,ntmps27;go_wp2_with(fail);go_ret;exact⟨rfl,Kf.alloc _⟩
 ):p:=h
theorem vJ{p:Prop}(h:p:=by
 go_wp2;go_roundw
 case rel=>exact⟨k+1,ad,by go_num,by rw[<-S.o],bs.o⟩
 case measure=>exact aU
 ):p:=h
theorem FF{p:Prop}(h:p:=by
 rintro e aJ ⟨rfl,he⟩;have aT:=ae (bs.trans he);have E:=ae (l.trans he);have bt:=ae (y.aj he);clear he a0 al af bs l y;obtain⟨a0,al,af⟩:=bt.two;go_wp2;refine wp_loop_rounds 1 ?_;rw[rounds_succ];go_wp2;go_roundw
 case rel=>exact⟨k+1,ad,by go_num,aT.o⟩
 case measure=>exact aU
 ):p:=h
theorem vK{p:Prop}(h:p:=by
 rcases O with O|O
 .rw[O] at hc;exact aN.2.2 hc
 .rw[O] at hc;injection hc with hc;have:=aN.2.1;omega
 ):p:=h
theorem pQ{p:Prop}(h:p:=by
 exact fV.mk' I.o (by rw[bW.o];exact aE) O b6.o
 ):p:=h
theorem vL{p:Prop}(h:p:=by
 refine fin _ λs hs=>?_;rcases JY.1 hs with rfl|hs
 .exact⟨c,c⟩
 .exact ab.2 s hs
 ):p:=h
theorem FG{p:Prop}(h:p:=by
 exact Ax
 ):p:=h
theorem FH{p:Prop}(h:p:=by
 exact Aw
 ):p:=h
theorem FI{p:Prop}(h:p:=by
 go_wp2;go_roundw
 case rel=>
  refine⟨k+1,ad,by go_num,λj D be d=>?_,aN.alloc G _⟩;by_cases z:j<k
  .exact ay.o j D z d
  .obtain rfl:j=k:=ad;rw[aJ.o] at d;injection d with d;rw[<-d];exact av.o
 case measure=>exact aU
 ):p:=h
theorem Cn{p:Prop}(h:p:=by
 obtain⟨A,n,c,ac,ap,aD⟩:=h.ex;exact⟨JJ h.lt O.size,A,n,c,ac,(O.cell h.lt (λh=>h)).trans ap,aD.on (Fr.ext O)⟩
 ):p:=h
theorem Co{p:Prop}(h:p:=by
 simp only[D.aR,D.rep];constructor
 .rintro⟨x,y,rfl,rfl,h⟩;exact⟨y,rfl,h⟩
 .rintro⟨y,rfl,h⟩;exact⟨_,y,rfl,rfl,h⟩
 ):p:=h
theorem vM{p:Prop}(h:p:=by
 go_wp2;go_roundw
 case rel=>exact⟨k+1,ad,by go_num,a4.o⟩
 case measure=>exact aU
 ):p:=h
theorem FJ{p:Prop}(h:p:=by
 rintro e fN ⟨rfl,S,hF⟩;have V:=av S (ab.2.1.trans hF) (ab.2.2.eQ hF λb O _=>⟨ad,ad⟩);clear S hF;go_wp2_with(fail);go_ret;exact⟨bU,c3,rfl,cX.2.2.2.2,V.1,V.2.1,V.2.2.sl (λb aq O=>⟨O,aq⟩) (λb aq O=>⟨O,aq⟩)⟩
 ):p:=h
theorem FK{p:Prop}(h:p:=by
 unfold eg at h;rw[bK,eN] at h;obtain⟨y,rfl,h⟩:=h;obtain⟨x,b3,rfl,hx,aa⟩:=dm.1 h;obtain⟨A,n,c,rfl,hc,hs⟩:=iM.1 hx;rw[D.bt] at aa;obtain⟨bg,c2,rfl⟩:=eF.1 aa;exact⟨_,A,n,c,_,_,rfl,hx⟩
 ):p:=h
theorem vN{p:Prop}(h:p:=by
 clear bb I;go_wp2;go_ret;refine⟨ret_bool ?_,O⟩;rw[a2.o,j.o,cY.o];simp
 ):p:=h
theorem FL{p:Prop}(h:p:=by
 rcases h with⟨m,hm,_,ac,ap⟩|⟨_,hp⟩
 .by_cases bi:0<m.size
  .obtain⟨l,a,hs⟩:=ac bi;rw[I] at a;injection a with a;subst a;exact hs
  .rw[ap bi] at I;cases I
 .rw[hp] at I;cases I
 ):p:=h
theorem FM{p:Prop}(h:p:=by
 clear ar aZ;go_wp2_with(fail);go_ret;refine⟨true,rfl,⟨λ_=>List.ext_getElem? λj=>?_,λ_=>rfl⟩,bd.1⟩;exact Av
 ):p:=h
theorem r4{p:Prop}(h:p:=by
 go_wp2;go_ret;exact⟨ret_bool (by rw[a2.o]),aN.alloc G _⟩
 ):p:=h
theorem FN{p:Prop}(h:p:=by
 have q1:((n:Int) != (m:Int))=true:=by simp;omega
 have az:=ae G;clear G;go_wp2_with(fail);go_ret;exact⟨false,rfl,⟨λh=>(by cases h),λh=>absurd (by rw[<-bN.1,<-bN.2.1,h]) az.o⟩,Kf⟩
 ):p:=h
theorem FO{p:Prop}(h:p:=by
 obtain⟨b5,rfl,ac⟩:=bm.1 h;obtain⟨b3,rfl,ap⟩:=bm.1 ac;obtain⟨bA,rfl,aD⟩:=bm.1 ap;obtain⟨A,n,c,cO,rfl,hc,hs,bt⟩:=aO.1 aD;rw[aS] at bt;subst bt;exact⟨A,n,c,rfl,hc,hs⟩
 ):p:=h
theorem pR{p:Prop}(h:p:=by
 go_wp2;go_ret;exact⟨ret_int (by rw[a2.o]),O⟩
 ):p:=h
theorem FP{p:Prop}(h:p:=by
 have a2:=vG r1 bj.1 bj.2 ef eg eL rg ro;clear r1 ef eg eL rg ro bb cn c7 cM bj bM m av bD c0 bT bw;go_wp2;go_roundw
 case rel=>exact⟨k+1,bg,c2,ad,by go_num,a2.o⟩
 case measure=>exact aU
 ):p:=h
theorem FQ{p:Prop}(h:p:=by
 simp only[J2,Atom.bytes,JX,J8];unfold eU;simp only[g,cB,aI,Kd,if_false,aX];rw[if_neg ad,if_neg ad];exact n8 (ab _) (by simp) (by simp)
 ):p:=h
theorem Cp{p:Prop}(h:p:=by
 have hle:=(Fr.aL L).size;clear hV L;generalize aL.heap.size=cS at *;exact key cS V ⟨a9,aK,hle⟩
 ):p:=h
theorem FR{p:Prop}(h:p:=by
 have:b=.sg [41]:=by
  simp[dE] at O;exact O.symm
 subst this;refine⟨λh=>by simp[Atom.jR] at h,λs hs _ c hc=>?_⟩;injection hs with hs;subst hs;simp[Atom.head] at hc;subst hc;decide
 ):p:=h
theorem xY{p:Prop}(h:p:=by
 have ac:=e1.size;exact⟨λO=>by
  rcases I _ O with h|h
  .exact(aE _ h).2.1 rfl
  .omega,λO=>by
  rcases I _ O with h|h
  .exact(aE _ h).2.2 rfl
  .omega⟩
 ):p:=h
theorem xZ{p:Prop}(h:p:=by
 have q1:(J == x)=false:=by simpa using e1
 have bN:=ae e1;clear e1;go_wp2_with(fail);go_ret;exact⟨false,rfl,⟨λh=>(by cases h),λh=>absurd (M.1 h).1 bN.o⟩,ab.1⟩
 ):p:=h
theorem qL{p:Prop}(h:p:=by
 exact jU.bad a2.o (bW.below.trans (b1.below.mono bW.below.size))
 ):p:=h
theorem qM{p:Prop}(h:p:=by
 have ap:=bL.2;simp only[JO,J5,ap];exact ac
 ):p:=h
theorem qN{p:Prop}(h:p:=by
 go_wp2;go_ret;exact⟨ret_bool (by rw[a2.o]),Below.refl _ _⟩
 ):p:=h
theorem x0{p:Prop}(h:p:=by
 go_wp2_with(fail);refine(Gy aU).mono ?_;rintro e v6 ⟨rfl,l⟩;have ab:=ae l;clear l;go_wp2_with(fail);go_ret;exact⟨rfl,Fr.ext (u.trans ab.o)⟩
 ):p:=h
theorem qO{p:Prop}(h:p:=by
 rw[aS] at aD;subst aD;exact⟨A,n,c,rfl,hc,hs⟩
 ):p:=h
theorem x1{p:Prop}(h:p:=by
 obtain⟨len,_,I⟩:=h.ok;rcases I with⟨ac,_⟩|⟨ac,_⟩|⟨_,_,ac⟩|⟨ac,_⟩|⟨ac,_⟩|⟨ac,_⟩<;>first|exact ac|omega
 ):p:=h
theorem x2{p:Prop}(h:p:=by
 have j:=ae e1;clear e1;go_wp2_with(fail);go_ret;exact⟨false,rfl,⟨λh=>(by cases h),λh=>absurd (M.1 h).1 (aC j.o)⟩,ab.1⟩
 ):p:=h
theorem x3{p:Prop}(h:p:=by
 refine⟨_,_,_,_,_,rfl,?_,ce.drew⟩;rw[bH.o];refine dB.2 ⟨none,0,0,rfl,JI _,?_⟩;simp only[I];exact Sl.c7 _
 ):p:=h
theorem tp{p:Prop}(h:p:=by
 go_wp2;go_ret;exact⟨ret_int (by rw[a2.o];rfl),Kf.alloc _⟩
 ):p:=h
theorem x4{p:Prop}(h:p:=by
 intro hm;rcases hm with hm|hm|hm
 .have:=HA.lt;omega
 .have:=(HA.rows.one.lt hm).2;omega
 .have:=(HA.rows.two.lt hm).2;omega
 ):p:=h
theorem x5{p:Prop}(h:p:=by
 obtain⟨len,_,I⟩:=i.ok;rcases I with⟨ac,_⟩|⟨ac,_⟩|⟨ac,_⟩|⟨ac,_⟩|⟨ac,_⟩|⟨ac,_⟩<;>omega
 ):p:=h
theorem x6{p:Prop}(h:p:=by
 simp only[JR] at O ⊢;rcases O with O|O|O
 .exact .inl O
 .exact .inr (.inl O)
 .exact .inr (.inr (.inr O))
 ):p:=h
theorem qP{p:Prop}(h:p:=by
 have:=ah.2;simpa[pF,pN] using this
 ):p:=h
theorem x7{p:Prop}(h:p:=by
 rw[<-hX];exact⟨N.below.setCell (p:=⟨wr.heap.size,0,none⟩) (JI _) _,N.blk.bH 0 _,by simpa using N.lt⟩
 ):p:=h
theorem qQ{p:Prop}(h:p:=by
 go_wp2;go_ret;exact⟨ret_bool a2.symm,aT.o⟩
 ):p:=h
theorem Gi{p:Prop}(h:p:=by
 have i:(hd.owner == 0)=true:=by simpa using bb
 clear bb;go_wp2;go_ret;exact⟨ret_bool (by rw[a2.o,cY.o];rfl),O⟩
 ):p:=h
theorem x8{p:Prop}(h:p:=by
 unfold fM;rw[bK];exact dj.2 ⟨_,rfl,aO.2 ⟨none,0,0,[],rfl,JI _,Sl.c7 _,aS.2 rfl⟩⟩
 ):p:=h
theorem x9{p:Prop}(h:p:=by
 rw[<-hV];exact⟨((Kf.alloc _).alloc _).drew,(Kg).alloc _,au.k5 _ _ _ (by simp),ad,ad,ad⟩
 ):p:=h
theorem ya{p:Prop}(h:p:=by
 go_wp2_with(fail);go_ret;exact⟨false,rfl,⟨λh=>(by cases h),λh=>absurd (by rw[ay.1 h]) cL.o⟩,U.o⟩
 ):p:=h
theorem yb{p:Prop}(h:p:=by
 have bP:L=T:=by rw[<-bL.o];unfold eV;rw[aA];rfl
 exact fV.mk' I.o (by rw[bP];exact ax) l aA
 ):p:=h
theorem tq{p:Prop}(h:p:=by
 go_wp2;go_ret;exact⟨ret_int (by rw[bL.o]),Below.refl _ _⟩
 ):p:=h
theorem yc{p:Prop}(h:p:=by
 rw[D.bt] at aa;obtain⟨bg,cz,c2,rfl,_,_⟩:=bj.1 aa;exact⟨_,_,_,_,_,_,_,_,rfl,aa⟩
 ):p:=h
theorem yd{p:Prop}(h:p:=by
 rcases Nat.eq_zero_or_pos n2 with ac|ac
 .exact ac
 .obtain⟨b,o,ap,_⟩:=ht.2 ac;rw[h0] at ap;cases ap
 ):p:=h
theorem ye{p:Prop}(h:p:=by
 generalize (Value.agg (ao.val ma))=Y;generalize (Value.agg (ay.val (dI pE)))=v;intro F;exact key L v Y _ F
 ):p:=h
theorem tr{p:Prop}(h:p:=by
 have:=(List.getElem?_eq_some_iff.1 hm).1;simp at this;omega
 ):p:=h
theorem yf{p:Prop}(h:p:=by
 exact Fr.low (M:=λb=>b=r.heap.size+1+1) ((ac.mono λ_ h=>h.elim).trans ax) λk aj=>ad
 ):p:=h
theorem ts{p:Prop}(h:p:=by
 exact fx.mk' rfl ((Below.refl _ _).alloc (JI _) _)
 ):p:=h
theorem yg{p:Prop}(h:p:=by
 generalize (Value.agg (ao.val (l0 i)))=Y;generalize (Value.slice bg i i)=v;intro F;exact key L v Y _ F
 ):p:=h
theorem yh{p:Prop}(h:p:=by
 unfold heldBy;rw[f,show (hd.owner == th+1)=true by simpa using bt,decide_eq_true ⟨hm,aD⟩];rfl
 ):p:=h
theorem yi{p:Prop}(h:p:=by
 rcases aI with aI|aI
 .rw[aI] at O;exact .inl O
 .rw[aI] at O;injection O with O;right;omega
 ):p:=h
theorem yj{p:Prop}(h:p:=by
 obtain⟨b3,rfl,h⟩:=h;rw[bm] at h;obtain⟨bA,rfl,h⟩:=h;rw[aS] at h;subst h;rfl
 ):p:=h
theorem Gj{p:Prop}(h:p:=by
 rcases hm with hm|hm
 .rcases hp with hp|hp
  .omega
  .have:=(bc b hp).1;omega
 .omega
 ):p:=h
theorem yk{p:Prop}(h:p:=by
 cases j with
 | zero=>simp[m6] at be;exact⟨rfl,be.symm⟩
 | succ j=>simp[m6] at be
 ):p:=h
theorem yl{p:Prop}(h:p:=by
 exact(kD.cons (.cons (.cons (.app (.cons (.nl (l:=[]) λa h=>by simp at h)))))).2 a bE
 ):p:=h
theorem ym{p:Prop}(h:p:=by
 simp only[VE.bP,VE.numOf,VE.dt] at *;go_wp2;go_ret;exact⟨ret_str bN.o,bd.o⟩
 ):p:=h
theorem yn{p:Prop}(h:p:=by
 by_cases an:0<=bh X e/\0<=th
 .exact an
 .rw[oo an] at aA;cases aA
 ):p:=h
theorem yo{p:Prop}(h:p:=by
 rintro e J ⟨rfl,S,hF⟩;exact⟨none,0,0,rfl,JI _,S,hF,Sl.c7 _⟩
 ):p:=h
theorem yp{p:Prop}(h:p:=by
 have:=bn.2.2.1
 cases d with
 | zero=>exact this.elim
 | succ cX=>exact⟨cX,rfl⟩
 ):p:=h
theorem yr{p:Prop}(h:p:=by
 conv=>lhs;rw[<-cV bI]
 simp only[ByteArray.append_assoc,ag];simp
 ):p:=h
theorem ys{p:Prop}(h:p:=by
 exact vb (q:=⟨bP,cg,bQ,TA,tn,tc,HA,hn,hc⟩) bR.2.2 G.o bn.o
 ):p:=h
theorem yt{p:Prop}(h:p:=by
 unfold heldBy;rw[f,show (hd.owner == th+1)=false by simpa using bt];simp
 ):p:=h
theorem yu{p:Prop}(h:p:=by
 go_wp2;go_ret;exact⟨none,0,rfl,World.ownsRow_nil _ _ _ _,Below.refl _ _⟩
 ):p:=h
theorem yv{p:Prop}(h:p:=by
 simp only[an.iT,aE.decl,GY,J7];cases d<;>exact Iff.rfl
 ):p:=h
theorem yw{p:Prop}(h:p:=by
 intro x hx;obtain⟨j,be⟩:=List.getElem?_of_mem hx;simpa using h j x be
 ):p:=h
theorem yx{p:Prop}(h:p:=by
 exact kp _ _ _ _ _ (by rw[lC];omega) (by rw[lC];omega)
 ):p:=h
theorem yy{p:Prop}(h:p:=by
 clear hm;go_wp2;go_ret;exact⟨ret_int (by rw[a2.o];rfl),ar.alloc _⟩
 ):p:=h
theorem yz{p:Prop}(h:p:=by
 exact⟨_,rfl,aO.2 ⟨A,n,c,[],rfl,hc,hs,aS.2 rfl⟩⟩
 ):p:=h
theorem Gk{p:Prop}(h:p:=by
 unfold free;rw[decide_eq_true ⟨hm,h0⟩,f,u,S,Bool.true_and]
 ):p:=h
theorem yA{p:Prop}(h:p:=by
 simp[go_sem];by_cases h:a=c<;>by_cases ap:b=d<;>simp[h,ap]
 ):p:=h
theorem yB{p:Prop}(h:p:=by
 simp only[cT,count_nil,a9,ct,dV];omega
 ):p:=h
theorem yC{p:Prop}(h:p:=by
 rw[aX a2.2.2.2.1,JP,JP];exact bN.1
 ):p:=h
theorem qR{p:Prop}(h:p:=by
 obtain⟨b0,am,aw⟩:=(ab.2.2.1.aj a9).two;clear hV a9 ct dy dw;have dK:w.heap.size+2<V.heap.size:=ad;go_wp2_with(fail);refine(EL P s t fs f ⟨bP,cg,bQ,TA,tn,tc,HA,hn,hc⟩ V (bR.2.2.FZ G.o (ab.1.trans b9.o)) (λb O=>JJ (G.o b O) (ab.1.trans b9.o).size) l.sm c9 br.2.1).mono ?_;rintro e bV ⟨⟨b7,aU,a3,bW,m,aX,bL,cd,aO⟩,O,lb,lc,hx,co,df,dJ,dX,y,F1,F2,bf,rfl,a7,dN⟩;have cb:=ak a7 dN;have cu:=a7.size;clear a7 dN b0 am aw;dsimp only[SV.val];go_upto_region 5 with(fail);generalize hU:World.alloc _ _=U;have ci:=aY hU;have cK:=aF hU;have c5:=cb.2 U bV.heap.size ci cK (JI _);have dM:=c5.lJ;have bC:=c5.gl;have cn:=c5.tl;have bG:=c5.hl;simp only at dM bC cn bG;subst dM;obtain⟨a8,k,flb,Q,J,c0,c1,c2,c3,aT⟩:=c5.top;have b8:Ext V U:=cb.1.trans ci;have dV:=(c5.lo lb (by simp)).1;have cY:=dT c5 b8 bC cn bG;have cS:t<(cd:Int):=by have:=br.2.2.2.2;omega
 have dW:((fs.length:Nat):Int)<(lc:Int):=by have:=c5.l.cap;omega
 have dS:fs.length<=lc:=ad;obtain⟨e0,bl,bm⟩:=cK.two;clear hU ci cK c5 b8 bC cn bG cb;go_upto_region 8 with(fail);generalize hX:World.setCell _ _ _=X;have cX:RO P V.heap.size X {s with threads:=s.threads.set t.toNat (fs++[next f])} t.toNat fs (next f) bV.heap.size ⟨b7,aU,a3,bW,m,aX,some ⟨O,0,none⟩,cd,aO⟩ O lb lc hx co df dJ dX y F1 F2 bf:=hX▸cY.1.pc (f.pc+1);have bM:=da hX;have ch:Ext V X:=Fr.low (M:=λb=>b=lb) (Fr.trans (Fr.mono cY.2.1 λ_ h=>h.elim) bM) λb O=>ad;have ca:=b9.trans ch;have aJ:=av cX ch ca;have dQ:=ch.size;clear hX bM e0 bl bm c0 c1 c2 c3 J flb Q a8 k aT;obtain⟨a8,k,flb,Q,J,c0,c1,c2,c3,aT⟩:=cX.top;obtain⟨a0,al,af⟩:=(ab.2.1.aj ca).two;obtain⟨b0,am,aw⟩:=(ab.2.2.1.aj ca).two;obtain⟨d0,aQ,aR⟩:=(bN.aj ch).two;obtain⟨e0,bl,bm⟩:=cX.o.two;have dU:=(cX.lo bV.heap.size (by simp))
 exact qS
 ):p:=h
theorem qT{p:Prop}(h:p:=by
 have l:=ae h;have br:=dT cr bx bF rV pJ;have dA:t<(hn:Int):=ad;have bR:=av hu hs aC;obtain⟨G,dp⟩:=aI S cf;clear h cr cn bx bF rV pJ hu hs aC S cf;dsimp only[UV.val,SV.val];go_enter func29,ntmps29;go_upto_region 1 with(fail);generalize ba:World.alloc _ _=W;have ar:=l6 ba;have bH:=jV ba;have bJ:=iF ba;have cq:=jD ba;have ab:=dq ar bH bJ cq (bR.1.on ar) (bR.2.1.on ar);have cP:=ar.size;have dv:=cq.lt;obtain⟨a0,al,af⟩:=bH.two;obtain⟨b0,am,aw⟩:=bJ.two;clear ba ar bH bJ cq;go_wp2_with(fail);refine(sS u s t f cc x W ⟨GA,gn,gc,MA,mn,mc,PA,pn,pc⟩ ⟨bP,cg,bQ,TA,tn,tc,HA,hn,hc⟩ ⟨l.sm,l.ht,l.hp,l.hx,l.hF.proc,l.pc.1,l.il,l.kl,ab.2.2.2.2.1,ab.2.2.2.2.2⟩).mono ?_;rintro e aL ⟨⟨eo,en,es,EA,em,ec,QA,qm,qc,dg,j,dh,KA,de,kc⟩,rfl,bD,ag⟩;have dw:=ak bD ag;clear a0 al af b0 am aw bD ag;dsimp only[IV.val];go_upto_region 2 with(fail);generalize hV:World.alloc _ _=V;have ct:=aY hV;have dy:=aF hV;have a9:Ext W V:=dw.2.trans ct;have dn:=a9.size;have dk:=dy.lt;have dR:=dw.2.size;have b9:=ae a9;have dC:=ae (dw.1.on ct);have bN:=ae dy;exact qU
 ):p:=h
theorem Gl{p:Prop}(h:p:=by
 go_wp2_with(fail);refine(show Calls prog 48 #[.pointer (some ⟨g,0,none⟩),.string ⟨#[118,97,114]⟩] v0 _ from iX [118,97,114] g A n c T (k) 0 v0 bJ.1).mono ?_;rintro e v1 ⟨rfl,ar⟩;rw[bp.2.1];have ay:=ak (bJ.1.aj ar) (bJ.2.trans (ar.mono (M':=λb=>b=g) λ_ h=>h.elim));clear ar;go_wp2_with(fail);refine(show Calls prog 48 #[.pointer (some ⟨g,0,none⟩),.string ⟨#[109,117,116,101,120]⟩] v1 _ from iX [109,117,116,101,120] g A n c T (k) 0 v1 ay.1).mono ?_;rintro e v2 ⟨rfl,ar⟩;rw[bp.2.2.1];have aw:=ak (ay.1.aj ar) (ay.2.trans (ar.mono (M':=λb=>b=g) λ_ h=>h.elim));clear ar;go_wp2_with(fail);refine(show Calls prog 48 #[.pointer (some ⟨g,0,none⟩),.string ⟨#[114,109,117,116,101,120]⟩] v2 _ from iX [114,109,117,116,101,120] g A n c T (k) 0 v2 aw.1).mono ?_;rintro e ax ⟨rfl,ar⟩;rw[bp.2.2.2];have aX:=ak (aw.1.aj ar) (aw.2.trans (ar.mono (M':=λb=>b=g) λ_ h=>h.elim));clear ar;go_wp2_with(fail);refine(show Calls prog 48 #[.pointer (some ⟨g,0,none⟩),.string ⟨#[102,117,110,99]⟩] ax _ from iX [102,117,110,99] g A n c T (k) 0 ax aX.1).mono ?_;rintro e v4 ⟨rfl,ar⟩;rw[bp.1];have bg:=ak (aX.1.aj ar) (aX.2.trans (ar.mono (M':=λb=>b=g) λ_ h=>h.elim));clear ar;obtain⟨bl,U,aE⟩:=(a2.2.2.1.on bg.2 ad).two;go_wp2_with(fail);refine(show Calls prog 50 #[.pointer (some ⟨g,0,none⟩),.string ⟨#[118,97,114]⟩] v4 _ from aW [118,97,114] g A n c T (k) 0 v4 bg.1 false bp.2.1 (λh=>by cases h)).mono ?_;rintro e aU ⟨rfl,S,hF⟩
 have bo:=ak (show aH aU g A n c T (k) 0 from by simpa using S) (bg.2.trans hF);clear S hF;clear bl U aE;go_wp2_with(fail);refine(show Calls prog 50 #[.pointer (some ⟨g,0,none⟩),.string ⟨#[109,117,116,101,120]⟩] aU _ from aW [109,117,116,101,120] g A n c T (k) 0 aU bo.1 false bp.2.2.1 (λh=>by cases h)).mono ?_;rintro e v6 ⟨rfl,S,hF⟩;have aB:=ak (show aH v6 g A n c T (k) 0 from by simpa using S) (bo.2.trans hF);clear S hF;go_wp2_with(fail);refine(show Calls prog 50 #[.pointer (some ⟨g,0,none⟩),.string ⟨#[114,109,117,116,101,120]⟩] v6 _ from aW [114,109,117,116,101,120] g A n c T (k) 0 v6 aB.1 false bp.2.2.2 (λh=>by cases h)).mono ?_;rintro e bD ⟨rfl,S,hF⟩;have bF:=ak (show aH bD g A n c T (k) 0 from by simpa using S) (aB.2.trans hF);clear S hF;go_wp2_with(fail);refine(show Calls prog 50 #[.pointer (some ⟨g,0,none⟩),.string ⟨#[102,117,110,99]⟩] bD _ from aW [102,117,110,99] g A n c T (k) 0 bD bF.1 true bp.1 (λ_=>ad)).mono ?_;rintro e c2 ⟨rfl,S,hF⟩;have b1:=ak (show aH c2 g A n c T (k+1) 0 from by simpa using S) (bF.2.trans hF);exact yD
 ):p:=h
theorem tt{p:Prop}(h:p:=by
 have a2:=ak (ab.2.2.2.1.aj bw.2.2) (ab.1.trans bw.2.2);have di:=bw.2.2.size;obtain⟨bh,an,aM⟩:=a2.1.two;obtain⟨e0,bl,bm⟩:=bw.2.1.two;go_wp2_with(fail);generalize hX:World.setCell _ _ _=Z;obtain⟨bq,a5,a4⟩:=bk (w:=w) [.slice b7 aU a3,.slice bW m aX,.slice (some ⟨O,0,none⟩) cd aO,.int .i64 s.fault] (by rfl) a2.1 a2.2 ad hX;have bn:=ak a5 a4;clear hX a5 a4 bh an aM e0 bl bm;obtain⟨bh,an,aM⟩:=bq.two;refine Ke (v:=.tuple #[.agg #[.slice b7 aU a3,.slice bW m aX,.slice (some ⟨O,0,none⟩) cd aO,.int .i64 s.fault],.bool true]) (by simp[results,Tryz.results29,go_sem,bh]) rfl ?_;exact tu
 ):p:=h
theorem yE{p:Prop}(h:p:=by
 rintro e aL ⟨rfl,L⟩;refine gu hK (L) ?_;clear hK K;refine bf (v:=?_) rfl (by rfl) (λV=>?_) ?_;rotate_left
 .go_simp;exact dK
 try simp only[PU]
 refine bf (v:=?_) rfl (by rfl) (λV=>?_) ?_;rotate_left
 .go_simp;exact dK
 try simp only[PU]
 exact yF
 ):p:=h
theorem qV{p:Prop}(h:p:=by
 go_wp2_with(fail);refine(show Calls prog 103 #[.pointer (some ⟨g,0,none⟩),.string ⟨#[40]⟩] w _ from eZ [40] g A n c T k deep w H.o br.1 ad).mono ?_;rintro e aL ⟨rfl,S,hF⟩;have H1:=ak S hF;clear S hF;go_wp2_with(fail);refine(show Calls prog 50 #[.pointer (some ⟨g,0,none⟩),.string ⟨#[41]⟩] aL _ from aW [41] g A n c T (k+1) deep aL H1.1 false br.2.1 (λh=>by cases h)).mono ?_;rintro e aV ⟨rfl,S,hF⟩;have bO:=ak (show aH aV g A n c T (k+1) deep from by simpa using S) (H1.2.trans hF);exact qW
 ):p:=h
theorem tv{p:Prop}(h:p:=by
 go_enter func104,ntmps104;go_upto_region 8 with(fail);generalize ba:World.alloc _ _=W;have ar:=jN ba;have ag:=fQ ba;have bS:=fR ba;have a5:Kl (rT w W g A n c T k deep (ni 0 ⟨#[]⟩ ⟨#[]⟩)):=ae ⟨H.aj ar,ar.mono λ_ h=>h.elim,ag,bS⟩;clear ba ar ag bS;go_wp2_with(fail);refine(show Calls prog 50 #[.pointer (some ⟨g,0,none⟩),.string ⟨#[118,97,114]⟩] W _ from aW [118,97,114] g A n c T k deep W a5.ps false (by first|exact br.1|exact cI br.1 (by decide)) (λh=>by first|omega|cases h)).mono ?_;rintro e aL ⟨rfl,S,hF⟩;have H1:=ae (a5.on bC (show aH aL g A n c T (k) deep from by simpa using S) hF);clear S hF;clear a5;go_wp2_with(fail);exact tw
 ):p:=h
theorem yG{p:Prop}(h:p:=by
 obtain⟨R,cr⟩:∃R,R=cd s.data.toList:=⟨_,rfl⟩
 rw[<-cr] at hn ai he hp;obtain⟨T,z,c8⟩:=R;simp only at hn ai he hp;subst he;have H:=dT h hp bS b3 cr;clear h hp bS b3 cr;go_enter func17,ntmps17;go_upto_region 1 with(fail);generalize ba:World.alloc _ _=W;have ar:=aY ba;have cq:=aF ba;have ab:=ak ar cq;have cP:=cq.lt;clear ba ar cq;go_wp2_with(fail);refine(show Calls prog 46 _ W (jU W (T,z,0)) by rw[H.2.2.2.2];exact we s b o cap W (H.1.on ab.1) ad).mono ?_;rintro e aL ⟨A,n,c,rfl,a7,cO,bY⟩;have ag:Ext W aL:=Fr.of bY;have ck:n=T.length:=cO.1.symm;have cH:n<=4001:=by rw[ck];exact hn
 have bj:0<n:=by rw[ck];exact ai
 have H1:=av ag cO ck;have ct:=ag.size;clear hn ai bY ag cO ck a7;go_upto_region 5 with(fail);generalize hV:World.alloc _ _=V;have a9:=jN hV;have bm:=fQ hV;have j:=fR hV;obtain⟨g,aS⟩:∃g,g=aL.heap.size:=⟨_,rfl⟩
 rw[<-aS] at bm j ⊢;have cN:aH V g A n c T 0 0:=⟨bm,(H1.2.1.eQ (Fr.ext a9) a9.size).ep (Below.refl _ _) |> λh=>by
  rw[aS];exact H1.2.1.ep (Fr.ext a9),bj,cH⟩
 have bR:=b9 cN j a9 aS;have cT:=j.lt;have eq:W.heap.size<=g:=ad;clear hV a9 bm j cN aS;go_wp2_with(fail);exact yH
 ):p:=h
theorem yI{p:Prop}(h:p:=by
 have H:=ae h;have br:=ak ac hs;have bC:=h.blk.lt;have L:=h.iN;have N:((deep:Int) == 24)=false:=by simp;omega
 clear h ac hs;go_enter func55,ntmps55;go_wp2_with(fail);refine(show Calls prog 48 #[.pointer (some ⟨g,0,none⟩),.string ⟨#[123]⟩] w _ from iX [123] g A n c T k deep w H.o).mono ?_;rintro e aL ⟨rfl,ar⟩;rw[br.1];have H1:=ak (H.aj ar) (ar.mono (M':=λb=>b=g) λ_ h=>h.elim);clear ar;obtain⟨a0,al,af⟩:=H1.1.blk.two;go_wp2_with(fail);refine(show Calls prog 103 #[.pointer (some ⟨g,0,none⟩),.string ⟨#[123]⟩] aL _ from eZ [123] g A n c T k deep aL H1.1 br.1 aj).mono ?_;rintro e aV ⟨rfl,S,hF⟩;have bO:=ak S (H1.2.trans hF);clear S hF a0 al af H1;obtain⟨a0,al,af⟩:=bO.1.blk.two;go_upto_region 5 with(fail);generalize hX:World.setCell _ _ _=X;have aA:=da hX;have aK:au X g 110 #[.slice A n c,.int .i64 ((k+1:Nat):Int),.int .i64 0,.int .i64 0,.int .i64 0,.int .i64 ((deep+1:Nat):Int)]:=hX▸bO.1.blk.bH 5 (.int .i64 ((deep:Int)+1));have aJ:=ak (show aH X g A n c T (k+1) (deep+1) from ⟨aK,bO.1.kH.ep (aA.below (aC bO.1.blk.lt) λb O hm=>ad),aj,L⟩) (bO.2.trans aA);clear hX aA aK a0 al af bO;go_wp2_with(fail);exact yJ
 ):p:=h
theorem qX{p:Prop}(h:p:=by
 obtain⟨cr,c9,cn,fs,bx,b3⟩:=h.th;have hs:=aC.ok S;obtain⟨GA,gn,gc,MA,mn,mc,PA,pn,pc⟩:=p;obtain⟨bP,cg,bQ,TA,tn,tc,HA,hn,hc⟩:=q;have pJ:hn=s.threads.length:=by have:=hs.at_.h.1;simpa using this.symm
 have bF:cg=s.globals.length:=by have:=hs.at_.g.1;simpa using this.symm
 have rV:tn=s.table.length:=by have:=hs.at_.t.1;simpa using this.symm
 have dr:hn<=1000:=by have:=h.sm.h;omega
 have c4:=h.pc;exact qY
 ):p:=h
theorem yK{p:Prop}(h:p:=by
 rintro e cf ⟨Q,on,P,rfl,cW,cX,S,hF⟩;have aZ:=be.2.2.1.on hF ad;have bP:=(be.2.2.2.2.al λb O=>hF.block b O.2 (aC O.1)).mono (c5:=λb=>bf.heap.size<b/\b<cf.heap.size) λb O=>⟨O.1,by have:=O.2;have:=hF.size;omega⟩
 have u:=jE S (be.2.1.trans hF) aZ cW cX be.2.2.2.1 bP;have c4:=hF.size;obtain⟨cD,aQ,aR⟩:=aZ.two;clear S hF aZ cW cX bP;go_upto_region 20 with(fail);generalize hX:World.setCell _ _ _=ce;have L:=da hX;have aZ:au ce bf.heap.size 123 #[.string (strOf t.text),.slice bW m l,.slice Q on P]:=hX▸u.2.2.1.bH 2 (.slice Q on P);have b2:Fr (λb=>b=g) wr ce:=u.2.1.mY (L.below u.2.1.size λk aj h=>ad);have bV:=a2.2.2.2.1.eQ b2 λb O _=>ad;have cK:=b2.size;have c6:=L.size;have cj:Sl ce (fresh Y cf) Q on (ls.map cc):=u.2.2.2.2.1.al λb O=>L.block b O.2 (aC O.1);have ah:∀b,(Value.slice MA mn mc).ownBlock=some b->b<wr.heap.size:=λb O=>(a2.2.2.2.1.one.lt O).2;have bw:∀b,(Value.slice FA fn fc).ownBlock=some b->b<wr.heap.size:=λb O=>(a2.2.2.2.1.two.lt O).2;exact yL
 ):p:=h
theorem Gm{p:Prop}(h:p:=by
 have ch:g+1≠g:=ad;go_wp2_with(fail);refine(ky 5 g A n c T k 0 wr a2.1).mono ?_;rintro e v0 ⟨rfl,aO⟩;rw[cY.o];have bJ:=ak (a2.1.aj aO) (aO.mono (M':=λb=>b=g) λ_ h=>h.elim);clear aO a0 al af;go_wp2_with(fail);refine(show Calls prog 48 #[.pointer (some ⟨g,0,none⟩),.string ⟨#[118,97,114]⟩] v0 _ from iX [118,97,114] g A n c T (k) 0 v0 bJ.1).mono ?_;rintro e v1 ⟨rfl,ar⟩;exact yM
 ):p:=h
theorem yN{p:Prop}(h:p:=by
 rintro r aL ⟨rfl,O⟩;by_cases hm:0<=bh X e
 case neg=>
  have a2:=ae (show free X T e th=false from oo ad);have ab:bh X e<0:=ad;clear hm;exact Cm
 obtain⟨k,m,hd,rfl,aj,y,f,u,b8⟩:=hT.at_ hm;rw[u];have aT:k<n2:=by have:=ht.1;omega
 have a3:m<n:=by have:=h.1;omega
 by_cases h0:0<=th
 case neg=>
  have a2:=ae (show free X T k th=false from oo ad);have l:th<0:=ad;clear h0 y f u;exact Cm
 obtain⟨b,o,D,rfl,H,hx,c0,c1⟩:=(ht.ep O).hold aT;obtain rfl:hd=D:=by rw[y] at hx;injection hx
 obtain⟨Y,ai,mx,rfl,g,d,d0,d1,d2⟩:=(h.ep O).HF a3;have bE:=hT.bound hd (JL y);have S:uR X m=mx.re:=by unfold uR;rw[J3,d];rfl
 have bO:free X T k th=(hd.owner == 0 || (hd.owner == th+1 && mx.re)):=by
  exact Gk
 have a2:=ae bO;clear bO hx d y f u hm S;by_cases bb:hd.owner=0
 .have cY:=ae bb;exact Gi
 have i:(hd.owner == 0)=false:=by simpa using bb
 exact yO
 ):p:=h
theorem yP{p:Prop}(h:p:=by
 have ax:Fr (λb=>b=g) wr cE:=cb.2.trans hF;have r:=a2.2.2.1.eQ ax λb O _=>⟨ad,ad⟩
 have hd:=D.aA (c5:=mS (λb=>w.heap.size<=b) cE (.slice Q on P)) (λb O=>⟨by have:=O.1;have:=cb.2.size;omega,O.2,λh=>by have:=(a2.2.2.1.lt h).2;have:=O.1;have:=cb.2.size;omega⟩) _ _ bY;have G:w.heap.size<=cE.heap.size:=by have:=ax.size;omega
 have bg:=b9 S (a2.2.1.trans ax) r hd;clear S hF ax r hd bY cb;go_wp2_with(at_builtin;refine cn D4 rfl (.tmp 34) (.tmp 37) rfl bg.2.2.1 bg.2.2.2 rfl rfl rfl ad ad G ?_;intro M be cy bb ax I ck;have bN:=ak bb ax;clear bb ax I ck);have bc:∀b,(Value.slice Q on P).ownBlock=some b->w.heap.size<=b:=λb O=>(bg.2.2.1.lt O).1;have aO:Fr (λb=>b=g) w cy:=bg.2.1.mY (bN.2.below G λk aj h=>by have:=bc k h;omega);have cF:=av (bg.1.on bN.2 λb O=>by have:=bc b O;omega) aO bN.1;clear bc aO bN bg;exact yQ
 ):p:=h
theorem yR{p:Prop}(h:p:=by
 rintro e v11 ⟨bW,m,l,rfl,hm,S,hF,bP⟩;have aZ:=aq.2.2.on hF ad;have c0:bf.heap.size<Z.heap.size:=aq.2.2.lt;have a8:=dT S (aq.2.1.trans hF) aZ hm (bP.mono (c5:=λb=>bf.heap.size<b/\b<v11.heap.size) λb O=>⟨by have:=O.1;omega,O.2⟩);obtain⟨cD,aQ,aR⟩:=aZ.two;clear S hF aZ hm bP c0;go_upto_region 19 with(fail);generalize hX:World.setCell _ _ _=Y;have L:=da hX;have aZ:au Y bf.heap.size 123 #[.string (strOf t.text),.slice bW m l,.slice none 0 0]:=hX▸a8.2.2.1.bH 1 (.slice bW m l);have bP:=(a8.2.2.2.2.al λb O=>L.block b O.2 (aC O.1)).mono (c5:=λb=>bf.heap.size<b/\b<Y.heap.size) λb O=>⟨O.1,by have:=O.2;have:=L.size;omega⟩
 have be:=dT (a8.1.on L λb O=>ad) (a8.2.1.mY (L.below a8.2.1.size λk aj h=>ad)) aZ a8.2.2.2.1 bP;have cg:bf.heap.size<Y.heap.size:=aZ.lt;clear hX L aZ cD aQ aR bP;go_wp2_with(fail);exact yS
 ):p:=h
theorem yT{p:Prop}(h:p:=by
 rintro e bV ⟨⟨aN,aU,a3,S,m,aX,bG,cd,aO⟩,rfl,b2,a7⟩;have cT:=ae b2;have bL:=(ab.2.2.2.2.1.aj bs.o).aj a7;have a2:=ak bL ((ab.1.trans bs.o).trans a7);clear b2 a7 b0 am aw d0 aQ aR;obtain⟨bh,an,aM⟩:=bL.two;clear bL;go_wp2_with(fail);generalize hX:World.setCell _ _ _=Z;exact yU
 ):p:=h
theorem yV{p:Prop}(h:p:=by
 have ay:=ak (bJ.1.aj ar) (bJ.2.trans (ar.mono (M':=λb=>b=g) λ_ h=>h.elim));clear ar;go_wp2_with(fail);refine(show Calls prog 48 #[.pointer (some ⟨g,0,none⟩),.string ⟨#[109,117,116,101,120]⟩] v1 _ from iX [109,117,116,101,120] g A n c T (k) 0 v1 ay.1).mono ?_;rintro e v2 ⟨rfl,ar⟩;exact yW
 ):p:=h
theorem yX{p:Prop}(h:p:=by
 rintro e aL ⟨rfl,S,hF⟩;have H1:=av S (Fr.trans (ab.2.1.mono λ_ h=>h.elim) hF) (ab.2.2.on hF ad);have bi:w.heap.size<aL.heap.size:=H1.2.2.lt;clear S hF;go_upto_region 2 with(fail);generalize hX:World.alloc _ _=X;have ar:=aY hX;have cq:=aF hX;have aJ:=b9 (H1.1.aj ar) (H1.2.1.trans (ar.mono λ_ h=>h.elim)) (H1.2.2.aj ar) cq;clear hX ar cq H1 ab;go_wp2_with(fail);exact tx
 ):p:=h
theorem yY{p:Prop}(h:p:=by
 go_enter func104,ntmps104;go_upto_region 8 with(fail);generalize ba:World.alloc _ _=v0;have ar:=jN ba;have ag:=fQ ba;have bS:=fR ba;have bJ:Kl (rT w v0 g A n c T k deep (ni 0 ⟨#[]⟩ ⟨#[]⟩)):=ae ⟨H.aj ar,ar.mono λ_ h=>h.elim,ag,bS⟩;clear ba ar ag bS;go_wp2_with(fail);refine(show Calls prog 50 #[.pointer (some ⟨g,0,none⟩),.string ⟨#[118,97,114]⟩] v0 _ from aW [118,97,114] g A n c T k deep v0 bJ.ps false (cI br.1 (by decide)) (λh=>by first|omega|cases h)).mono ?_;rintro e v1 ⟨rfl,S,hF⟩;have ay:=ae (bJ.on bC (show aH v1 g A n c T (k) deep from by simpa using S) hF);clear S hF bJ;go_wp2_with(fail);exact yZ
 ):p:=h
theorem y0{p:Prop}(h:p:=by
 clear cl cB cm S hF aK hG bC bL aD bS b3 a3 bQ aa;go_wp2_with(fail);refine(ky 5 g A n c T k 0 wr a2.1).mono ?_;rintro e aV ⟨rfl,aO⟩;rw[br.1];have bO:=ae aO;clear a0 al af;obtain⟨a0,al,af⟩:=(a2.1.blk.aj aO).two;obtain⟨bl,U,aE⟩:=(a2.2.2.1.aj aO).two;have ci:Ext W aV:=Fr.low (M:=λb=>b=g\/b=g+1) (Fr.trans (Fr.mono (H1.1.trans bR.2.2.1) λ_ h=>h.elim) (Fr.trans a2.2.1 (Fr.mono aO λ_ h=>h.elim))) λb O=>ad;have co:=ab.2.aj ci;have N:=ak co (ab.1.trans ci);obtain⟨bh,an,aM⟩:=co.two;have bz:=aO.size;clear aO ci co;go_wp2_with(fail);generalize hX:World.setCell _ _ _=Z;exact y1
 ):p:=h
theorem y2{p:Prop}(h:p:=by
 have H:=dq hn ai he hp aS hw;clear hn ai he hp aS hw;go_enter func5,ntmps5;go_upto_region 1 with(fail);generalize ba:World.alloc _ _=W;have ar:=aY ba;have cq:=aF ba;have ab:=ak ar cq;have cP:=cq.lt;clear ba ar cq;have kc:=run_bytes_of_string (P:=prog) W 9 64 5 s Tryz.underlying9 Tryz.underlying64 Tryz.underlying5;have b2:=grownCap_ge W s.size 0 5;generalize M:grownCap W s.size 0 5=cap at *;clear M;go_wp2_with(fail);generalize hV:World.alloc _ _=V;have hT:eG V W.heap.size 0 cap s:=by
  rw[<-hV];exact wH W s cap b2 ad _ _
 have T:=aY hV;have bR:=ak hT T;clear hV T kc hT;exact y3
 ):p:=h
theorem y4{p:Prop}(h:p:=by
 rintro e aV ⟨rfl,S,hF⟩;have bO:=b9 (show aH aV g A n c T (k+1) deep from by simpa using S) (aJ.2.1.trans hF) (aJ.2.2.1.on hF ad) (aJ.2.2.2.on hF ad);clear S hF aJ;go_wp2_with(fail);refine(show Calls prog 103 #[.pointer (some ⟨g,0,none⟩),.string ⟨#[59]⟩] aV _ from eZ [59] g A n c T (k+1) deep aV bO.1 br.2.2.2 ad).mono ?_;rintro e bV ⟨rfl,S,hF⟩;have bp:=bO.2.2.1.on hF ad;have cA:=bO.2.2.2.on hF ad;have cb:=av S (bO.2.1.trans hF) bp;clear S hF bO;obtain⟨d0,aQ,aR⟩:=cA.two;obtain⟨bh,an,aM⟩:=bp.two;clear cA bp;go_wp2_with(fail);generalize cm:World.setCell _ _ _=Y;exact y5
 ):p:=h
theorem nO{p:Prop}(h:p:=by
 obtain⟨a1,aR,aW,e,bX,hs⟩:=bj.1 aZ;simp only[List.cons.injEq,Value.int.injEq,Value.string.injEq,Value.slice.injEq,and_true,true_and] at e;obtain⟨rfl,rfl,rfl,rfl,rfl,rfl⟩:=e;exact nP
 ):p:=h
theorem y6{p:Prop}(h:p:=by
 intro bU c3 bD bX g2 cv cR;have bc:∀b,(Value.slice MA mn mc).ownBlock=some b->V.heap.size<=b:=λb O=>(ao.one.lt O).1;have bN:=av (ao.grow bX g2 cv) g2 (bv.on g2 λO=>by have:=bc _ O;omega);have ca:=ae (aB.1.on g2 λb O=>by have:=bc b O;omega);have bi:=ae bc;obtain⟨bl,U,aE⟩:=bN.2.2.two;clear bX g2 cv cR bc;refine eC hK ?_;clear hK K;refine pf ?_;refine az rfl (λK hK=>?_);go_simp;refine eC hK ?_;clear hK K;refine aG ?_;generalize hX:World.setCell _ _ _=X;have bG:=bN.1;have bM:=da hX;exact y7
 ):p:=h
theorem qZ{p:Prop}(h:p:=by
 have a2:=ae (show decide (S=T)=false from decide_eq_false (λh=>aH (by rw[<-hl,<-bZ,h])));have v:(n != n2)=true:=by simpa using aH
 have m:((n:Int) != (n2:Int))=true:=by simp;omega
 clear hl bZ aH;exact q0
 ):p:=h
theorem gK{p:Prop}(h:p:=by
 obtain⟨GA,gn,gc,MA,mn,mc,PA,pn,pc⟩:=p;obtain⟨bP,cg,bQ,TA,tn,tc,HA,hn,hc⟩:=q;exact gL
 ):p:=h
theorem gM{p:Prop}(h:p:=by
 refine az rfl (λK hK=>?_);go_simp;refine eC hK ?_;clear hK K;refine aG ?_;exact eI
 ):p:=h
theorem y8{p:Prop}(h:p:=by
 have ar:Ext w (w.alloc (.cells #[.bool false,.int .i64 i,.slice (some ⟨b,o,none⟩) 1 pc] 74)):=Kf.alloc _;have c:au (w.alloc (.cells #[.bool false,.int .i64 i,.slice (some ⟨b,o,none⟩) 1 pc] 74)) w.heap.size 74 #[.bool false,.int .i64 i,.slice (some ⟨b,o,none⟩) 1 pc]:=Kg;obtain⟨a3,E,ao,hm,bB,e0,e1,e2,e3⟩:=h;obtain⟨b5,bw,aR,rfl,cb,ab,f0,f1,f2⟩:=E.Il ao;have u:aR=m:=by rw[hm] at ab;injection ab with h;exact h.symm
 subst u;exact y9
 ):p:=h
theorem za{p:Prop}(h:p:=by
 clear S hF;go_wp2_with(fail);refine(g7 g A n c T (k+1) 0 c2 t b1.1 aI.1 aI.2.1 ad).mono ?_;rintro e bf ⟨rfl,S,hF⟩;have bZ:=ak (show aH bf g A n c T (k+2) 0 from S) (b1.2.trans hF);have c1:=bZ.2.size;clear S hF;go_upto_region 18 with(fail);generalize hX:World.alloc _ _=Z;have a5:=aY hX;have aZ:=aF hX;have aq:=av (bZ.1.aj a5) (bZ.2.trans (a5.mono (M':=λb=>b=g) λ_ h=>h.elim)) aZ;have c7:g<bf.heap.size:=bZ.1.blk.lt;clear hX a5 aZ;go_wp2_with(fail);exact zb
 ):p:=h
theorem zd{p:Prop}(h:p:=by
 have bc:=a2.2.2.2.2;have F:=a2.2.2.1.ek u.size λb O hp=>u.block b O λhm=>by
  exact Gj
 have K:aH Y g A n c T (k+1+3*j+2) deep:=bg.1.on bu λb O=>ad;have bw:=ae (And.intro K (And.intro (Fr.mono (M':=λb=>b=g\/w.heap.size<=b) (Fr.trans (a2.2.1.mono λ_ h=>.inl h) (u.mono λb O=>O)) λb O=>by
  rcases O with O|O
  .exact .inl O
  .exact .inr ad) (And.intro F bA)))
 obtain⟨cD,aQ,aR⟩:=bA.two;exact ze
 ):p:=h
theorem tz{p:Prop}(h:p:=by
 have d0:=Z 0 _ rfl;have d1:=Z 1 _ rfl;have d2:=Z 2 _ rfl;have d3:=Z 3 _ rfl;have d4:=Z 4 _ rfl;have d5:=Z 5 _ rfl;have d6:=Z 6 _ rfl;have d7:=Z 7 _ rfl;have d8:=Z 8 _ rfl;have d9:=Z 9 _ rfl;have d10:=Z 10 _ rfl;simp only[JS] at d0;exact tA
 ):p:=h
theorem q2{p:Prop}(h:p:=by
 obtain⟨dj,c7,df,rfl,dr,bY⟩:=bj.1 P;have c0:=Z 0 _ rfl;have c1:=Z 1 _ rfl;have c2:=Z 2 _ rfl;have c3:=Z 3 _ rfl;simp only[JS] at c0;have aN:b<wr.heap.size:=O;exact q3
 ):p:=h
theorem zf{p:Prop}(h:p:=by
 go_upto_region 1 with(fail);generalize ba:World.alloc _ _=W;have ar:=l6 ba;have bJ:=jV ba;have b7:=iF ba;have cL:=jD ba;have ab:=jE ar bJ b7 cL (hu.on ar) (hs.on ar) (D.on bx (Fr.ext ar));have r:=hT.on ar;obtain⟨a0,al,af⟩:=bJ.two;obtain⟨b0,am,aw⟩:=b7.two;obtain⟨d0,aQ,aR⟩:=cL.two;have b1:=ae r;clear ba ar bJ b7 cL r hT hu hs bx T hS hU ht hp hx hF x o;go_wp2_with(fail);exact zg
 ):p:=h
theorem zh{p:Prop}(h:p:=by
 clear hX d0 aQ aR HA;go_wp2_with(fail);refine(show Calls prog 103 #[.pointer (some ⟨g,0,none⟩),.string ⟨#[59]⟩] X _ from eZ [59] g A n c T (k+1+1) deep X aJ.ps br.2.2.2.2 ad).mono ?_;rintro e cP ⟨rfl,S,hF⟩;have bn:=ae (aJ.on bC S hF);clear S hF aJ;obtain⟨d0,aQ,aR⟩:=bn.s.two;obtain⟨bh,an,aM⟩:=bn.r.two;simp only[ni] at d0;go_wp2_with(fail);generalize hX:World.setCell _ _ _=V;exact zi
 ):p:=h
theorem zj{p:Prop}(h:p:=by
 clear bi;have dc:=b4.size;go_wp2_with(fail);refine(nC P s ⟨bP,cg,bQ,TA,tn,tc,HA,hn,hc⟩ z cE (bR.2.2.FZ G.o (ab.1.trans b4.o)) (λb O=>JJ (G.o b O) (ab.1.trans b4.o).size)).mono ?_;rintro e cy ⟨⟨dD,cW,cx,bI,bZ,bT,bK,bj,ck⟩,rfl,b2,b5⟩;have dj:=b5.size;have cT:=ae b2;have a2:=ak (ab.2.2.2.1.aj (b4.trans b5)) ((ab.1.trans b4.o).trans b5);exact zk
 ):p:=h
theorem zl{p:Prop}(h:p:=by
 obtain⟨n,nm,b,o,c,bl,Z,U,F,cD,b5,b3,bA,aB,O,hx,aa,e0,e1,e2,e3,cn,ci,bL,e7⟩:=h.rep;injection aB with h0 aB;injection aB with ac aB;injection aB with ap aB;injection aB with aD aB;subst h0 ac ap aD;clear aB;have cf:=h.ok.1;have E:kQ w G L ng nl g l x [bl,Z,U,F]:=⟨h.gs,h.ls,h.ok.2.1,hx⟩
 have j:kQ w G L ng nl g l y [cD,b5,b3,bA]:=⟨h.gs,h.ls,h.ok.2.2,aa⟩
 exact zm
 ):p:=h
theorem tB{p:Prop}(h:p:=by
 have aS:=h.g;have hm:=h.m;have aA:=h.f;have dB:p.globals.length=gn:=by rw[<-aS.1,JM]
 have lm:p.af.length=mn:=by rw[<-hm.1,JM]
 have lf:p.funcs.length=fn:=by rw[<-aA.1,JM]
 exact tC
 ):p:=h
theorem Gn{p:Prop}(h:p:=by
 have y:Fr (λb=>b=g\/b=g+1) V X:=Fr.F3 (M:=λb=>(b=g\/b=g+1)\/(Value.slice MA mn mc).ownBlock=some b) (Fr.trans (Fr.trans (Fr.trans (Fr.mono a2.2.1 λ_ h=>.inl h) (Fr.mono aB.2 λ_ h=>.inl (.inl h))) (Fr.mono bN.2.1 λ_ h=>.inr h)) (Fr.mono aJ.2.1 λ_ h=>.inl (.inr h))) λb O hm=>hm.elim id λhm=>absurd (bi.o b hm) ad
 iterate 101 apply Exists.intro
 exact zn
 ):p:=h
theorem zo{p:Prop}(h:p:=by
 refine(show Calls prog 50 #[.pointer (some ⟨g,0,none⟩),.string ⟨#[103,111]⟩] aL _ from aW [103,111] g A n c T k deep aL H1.ps false (by first|exact br.1|exact cI br.1 (by decide)) (λh=>by first|omega|cases h)).mono ?_;rintro e aV ⟨rfl,S,hF⟩;have bO:=ae (H1.on bC (show aH aV g A n c T (k) deep from by simpa using S) hF);clear S hF;clear H1;go_wp2_with(fail);exact zp
 ):p:=h
theorem zq{p:Prop}(h:p:=by
 have bd:=ae (show ev g l (.bin op x y)=if (ev g l x).2≠0 then (0,(ev g l x).2) else if op=16/\(ev g l x).1=0 then (0,0) else if op=17/\(ev g l x).1≠0 then (1,0) else if (ev g l y).2≠0 then (0,(ev g l y).2) else if op=16\/op=17 then (eH ((ev g l y).1 != 0),0) else arith op (ev g l x).1 (ev g l y).1 from rfl);generalize ev g l x=r1 at *;obtain⟨v1,f1⟩:=r1;exact zr
 ):p:=h
theorem zs{p:Prop}(h:p:=by
 rintro e v6 ⟨rfl,S,hF⟩;have aB:=ak (show aH v6 g A n c T (k+3) 0 from S) (bo.2.trans (Fr.aL hF));refine gu hK (hF) ?_;clear hK K;clear S hF bl U aE;refine sG ?_;have bV:=a2.2.2.2.1.eQ aB.2 λb O _=>ad;have cK:=aB.2.size;have ao:=ae bV;have cC:=a2.2.2.1.on aB.2 ch;have bv:=ae cC;clear bV cC;refine az rfl (λK hK=>?_);rw[if_pos (by rfl)];exact zt
 ):p:=h
theorem zu{p:Prop}(h:p:=by
 go_upto_region 1 with(fail);generalize ba:World.alloc _ _=W;have ar:=Hg ba;have bJ:=Fb ba;have b7:=Fc ba;have cL:=Fe ba;have cq:=Ff ba;have ab:=vG ar bJ b7 cL cq (bR.1.on ar) (bR.2.1.on ar) (bR.2.2.on ar);obtain⟨a0,al,af⟩:=bJ.two;obtain⟨b0,am,aw⟩:=b7.two;obtain⟨d0,aQ,aR⟩:=cL.two;clear ba ar bJ b7 cL cq bR;go_wp2_with(fail);exact zv
 ):p:=h
theorem zw{p:Prop}(h:p:=by
 obtain⟨j,D,l,rfl,be,S,hF,hG⟩:=hrel;obtain⟨t,ht⟩:∃t,r[j]?=some t:=⟨_,List.getElem?_eq_getElem ad⟩
 obtain⟨co,bQ,I⟩:=S.blk.two;have l4:=hF.size;have R:g<wr.heap.size:=S.blk.lt;have bc:∀b,(Value.slice D j l).ownBlock=some b->w.heap.size<=b/\b<wr.heap.size:=λb O=>hG.lt O;have a2:=dT S hF hG ht bc;exact zx
 ):p:=h
theorem Gp{p:Prop}(h:p:=by
 have y:Fr (λb=>b=g\/b=g+1) V X:=Fr.F3 (M:=λb=>(b=g\/b=g+1)\/(Value.slice FA fn fc).ownBlock=some b) (Fr.trans (Fr.trans (Fr.trans (Fr.mono a2.2.1 λ_ h=>.inl h) (Fr.mono aB.2 λ_ h=>.inl (.inl h))) (Fr.mono bN.2.1 λ_ h=>.inr h)) (Fr.mono aJ.2.1 λ_ h=>.inl (.inr h))) λb O hm=>hm.elim id λhm=>absurd (bi.o b hm) ad;exact zy
 ):p:=h
theorem zz{p:Prop}(h:p:=by
 refine uU (λ_=>False) [6,11] (.free 0 (.free 1 (.free 2 (.held 3 (.free 4 (.held 5 (.pick [6,10] (λi=>bif i == 6 then .free 7 (.free 8 (.free 9 (.pick [10] (λ_=>.pick [11] (λ_=>.free 12 (.stop)))))) else .pick [6] (λ_=>.free 7 (.free 8 (.free 9 (.pick [11] (λ_=>.free 12 (.stop)))))))))))))) ?_
 iterate 3 refine tf ?_
 refine th ?_;refine tf ?_;refine th ?_;exact zA
 ):p:=h
theorem zB{p:Prop}(h:p:=by
 clear hc ct bz cB ch;go_wp2_with(fail);refine(show Calls prog 50 #[.pointer (some ⟨g,0,none⟩),.string ⟨#[125]⟩] wr _ from aW [125] g A n c T j (deep+1) wr a2.1 false bK.1 (λh=>by cases h)).mono ?_;rintro e bV ⟨rfl,S,hF⟩;have cb:=ak (show aH bV g A n c T j (deep+1) from by simpa using S) hF;clear S hF a0 al af;go_wp2_with(fail);exact zC
 ):p:=h
theorem gN{p:Prop}(h:p:=by
 refine aB ?_;refine ca rfl (λK hK=>?_) rfl;go_simp;refine eC hK ?_;clear hK K;exact gO
 ):p:=h
theorem kS{p:Prop}(h:p:=by
 go_upto_region 1 with(fail);generalize ba:World.alloc _ _=W;have ar:=jN ba;have aK:=fQ ba;have cq:=fR ba;exact kT
 ):p:=h
theorem zD{p:Prop}(h:p:=by
 have k:=λbi=>CK (s:=s) (nl:=cc.locals) (nk:=f.aq.length) aJ.1 aJ.2.2.1 (Int.le_refl _) aJ.2.2.2.2.2 j bi;have aA:=w4 (u:=u) (s:=s) (f:=f) j;have m:=oa (u:=u) (s:=s) (f:=f) j;generalize cF u s f pl=R at *;obtain⟨v,z⟩:=R;simp only at k aA m;have bF:=av k aA m;exact zE
 ):p:=h
theorem zF{p:Prop}(h:p:=by
 have hm:am=ms:=by have:=a2.2.2.2.2.1;rw[br.2.1,J7] at this;exact this
 have aA:bs=fs:=by have:=a2.2.2.2.2.2.1;rw[br.2.2,J7] at this;exact this
 have bt:=a2.2.2.2.1.aj bO.o;have cF:=bn.2.size;have bb:=bt.eQ bn.2 λb O _=>by have:=bR.2.2.1.size;omega
 rw[hm,aA] at bb;have dn:=bR.2.2.1.size;exact zG
 ):p:=h
theorem zH{p:Prop}(h:p:=by
 have bZ:=ht.1;have bj:n2<=5000:=by have:=cq hX;have:=hT.len;omega
 have bd:=ez X T e th;have hlen:(n2:Int)=elems X:=by rw[<-dR,<-hT.len,bZ]
 generalize aK:cJ X T e th=L at *;obtain⟨bL,bN⟩:=aI aK hlen;clear aK hlen;rw[bZ] at bd;have I:=ae bd;clear bd;exact zI
 ):p:=h
theorem zJ{p:Prop}(h:p:=by
 have o:a1<X.heap.size:=JJ u bf.size;clear hX bf a6;go_upto_region 7 with(fail);generalize cm:World.alloc _ _=Y;have ce:=aY cm;have bA:=aF cm;have bw:=ae (aJ.1.trans ce);obtain⟨bl,U,aE⟩:=(aJ.2.aj ce).two;obtain⟨cD,aQ,aR⟩:=bA.two;clear cm ce bA;go_wp2_with(fail);exact zK
 ):p:=h
theorem zL{p:Prop}(h:p:=by
 generalize hV:World.alloc _ _=V;have T:=aY hV;have bs:=ae (bd.trans T);have y:=ae (bL.aj T);have hC:=aF hV;have bK:=ae hC;have c5:=ae (b3.on (Fr.ext T));have dD:=ae (bE.on (Fr.ext T));clear hV a0 al af c0 c1 c2 aN bd bL T b3 bE;obtain⟨a0,al,af⟩:=hC.two;clear hC;exact zM
 ):p:=h
theorem zN{p:Prop}(h:p:=by
 obtain⟨len,hlen,I⟩:=h.ok;have hx:(∃e,x.expr=some e/\fC (bp u) cc.locals e)/\0<=x.target/\(x.op=1->x.c5=true->x.target<u.globals.length)/\(x.op=1->x.c5=false->x.target<f.ints.length):=by
  exact Hk
 obtain⟨⟨ex,hex,bd⟩,dz,cC,aa⟩:=hx;exact zO
 ):p:=h
theorem tD{p:Prop}(h:p:=by
 have ck:l.length=n:=by have:=hl.1;simpa using this
 have bS:k.length=m:=by have:=aj.1;simpa using this
 have bN:=av ck bS T;have bF:=ak hl aj;clear ck bS T hl aj;exact tE
 ):p:=h
theorem zP{p:Prop}(h:p:=by
 obtain⟨n,nm,b,o,c,bl,Z,U,F,aB,O,hx,e0,e1,e2,e3⟩:=h.rep;injection aB with h0 aB;injection aB with ac aB;injection aB with ap aB;injection aB with aD aB;subst h0 ac ap aD;clear aB;have cf:=h.ok.1;have E:kQ w G L ng nl g l x [bl,Z,U,F]:=⟨h.gs,h.ls,h.ok.2,hx⟩
 exact zQ
 ):p:=h
theorem tF{p:Prop}(h:p:=by
 unfold eg at h;rw[bK,eN] at h;obtain⟨y,rfl,h⟩:=h;obtain⟨x,b3,rfl,hx,aa⟩:=dm.1 h;unfold fM at hx;rw[bK,dj] at hx;obtain⟨z,rfl,hx⟩:=hx;exact tG
 ):p:=h
theorem zR{p:Prop}(h:p:=by
 have cX:=a8 0 _ rfl;simp only[JS] at cX;have cp:=a8 1 _ rfl;have bE:=a8 2 _ rfl;have cB:=a8 3 _ rfl;have aI:=a8 4 _ rfl;have c7:=a8 5 _ rfl;have cM:=a8 6 _ rfl;have cl:=a8 7 _ rfl;have cA:=a8 8 _ rfl;have cH:=a8 9 _ rfl;have ca:=a8 10 _ rfl;have cf:=a8 11 _ rfl;exact zS
 ):p:=h
theorem q4{p:Prop}(h:p:=by
 have cH:gn<=16:=by have:=hp.lN;omega
 have bj:mn<=12:=by have:=hp.uC;omega
 have dL:fn<=16:=by have:=hp.xl;omega
 exact q6
 ):p:=h
theorem zT{p:Prop}(h:p:=by
 have cY:=ae cl;have bp:=b9 cQ (show aN [118,97,114] T k=false from cI cQ (by decide)) (show aN [109,117,116,101,120] T k=false from cI cQ (by decide)) (show aN [114,109,117,116,101,120] T k=false from cI cQ (by decide));have aI:=jE ht bx cz bA cw cZ cM;exact zU
 ):p:=h
theorem zV{p:Prop}(h:p:=by
 obtain⟨hM,aA,hG⟩:=h.own hX;obtain⟨GA,gn,gc,MA,mn,mc,FA,fn,fc,aK,cp,bE,cB,aI⟩:=h.blk;refine⟨⟨⟨GA,gn,gc,MA,mn,mc,FA,fn,fc,?_,cp,bE,cB.gW hM,aI.gW hM⟩,⟨h.base.1,JZ h.base.2 hM.fr.size⟩,⟨h.names.1,h.names.2.gW hM⟩,hG⟩,hM⟩;exact zW
 ):p:=h
theorem zX{p:Prop}(h:p:=by
 rintro e aL ⟨MA,mn,mc,FA,fn,fc,z,rfl,g,bX,ax,ag⟩;have i:Ext W aL:=bR.2.drew.trans ag;have H1:=ak g i;have ct:=i.size;clear g ag i bX ax;go_upto_region 2 with(fail);generalize hX:World.alloc _ _=X;have bf:=aY hX;have a6:=aF hX;exact zY
 ):p:=h
theorem zZ{p:Prop}(h:p:=by
 have a4:=ae (show ev g l (.bin op x y)=if (ev g l y).2≠0 then (0,(ev g l y).2) else if op=16\/op=17 then (eH ((ev g l y).1 != 0),0) else arith op v1 (ev g l y).1 by rw[bd.o];simp only[K.o,ne_eq,not_true_eq_false,if_false];rw[if_neg bE,if_neg bb]);exact z0
 ):p:=h
theorem z1{p:Prop}(h:p:=by
 by_cases aD:0<=th
 case neg=>
  have aA:heldBy X T k th=false:=jn ad;have bW:=ae (no aA);have b6:=ae aA;have l:th<0:=ad;clear aD no aA bZ y f u hm;go_wp2
  go_ret2
  exact pQ
 have bE:=hT.bound hd (JL y);exact z2
 ):p:=h
theorem nQ{p:Prop}(h:p:=by
 go_upto_region 1 with(fail);generalize ba:World.alloc _ _=W;have ar:=jN ba;have bp:=fQ ba;have bH:=fR ba;exact nR
 ):p:=h
theorem z3{p:Prop}(h:p:=by
 have bn:=ae a5;clear hX a5 a4 bh an aM b0 am aw;obtain⟨bh,an,aM⟩:=bq.two;refine Ke (v:=.tuple #[.agg #[.slice bP cg bQ,.slice TA tn tc,.slice HA hn hc,.int .i64 s.fault],.bool false]) (by simp[results,Tryz.results29,go_sem,bh]) rfl ?_;exact z4
 ):p:=h
theorem z5{p:Prop}(h:p:=by
 have ao:=ak bV cx;have cC:=a2.2.2.1.on b2 ch;have bv:=ae cC;have aB:=ak (u.1.on L λb O=>ad) b2;clear hX L b2 bV cj b0 ah bw cx cD aQ aR;obtain⟨cD,aQ,aR⟩:=aZ.two;obtain⟨bl,U,aE⟩:=cC.two;clear aZ cC;exact z6
 ):p:=h
theorem tH{p:Prop}(h:p:=by
 have S:co.length=fs.length*4:=by rw[D.h5 _ _ h.fr,D.hq (z:=4) (λd hd=>by obtain⟨x,_,rfl⟩:=J6.1 hd;rfl),JM]
 exact tI
 ):p:=h
theorem z7{p:Prop}(h:p:=by
 obtain⟨O,bb,bT,cT,n,fc,IA,i,ic,bo,l,lc,e,hT⟩:=hs.at_.top T ht;simp only at e;subst e;obtain⟨hF,_,_⟩:=hS.top ht;have x:=hF.ru hp;have o:cQ (bp u) cc.locals f.aq.length pl:=by rw[x];exact hx
 rw[hE ht];exact z8
 ):p:=h
theorem z9{p:Prop}(h:p:=by
 refine fj (λ_=>False) [(0,3),(1,0),(2,3),(3,3),(4,3),(5,3),(6,3),(7,3),(8,3),(9,3),(10,2)] ?_;refine pf ?_;refine ph ?_
 iterate 5 refine pf ?_
 rw[show IntKind.i64.wrap ((fs.length:Nat):Int)=(fs.length:Int) from IntWalk.i64_in _ ad];exact Aa
 ):p:=h
theorem tJ{p:Prop}(h:p:=by
 go_upto_region 1 with(fail);generalize ba:World.alloc _ _=W;have ar:=aY ba;have cq:=aF ba;have ab:=av (H.aj ar) ar cq;clear ba ar cq;go_wp2_with(fail);exact tK
 ):p:=h
theorem Ab{p:Prop}(h:p:=by
 have cj:bT<wr.heap.size:=cy;have u:a1<wr.heap.size:=bz;have T:=bN.2.2 f (JL J);have aK:x=f.ints.length:=by have:=Z.1;simpa using this.symm
 have S:y=f.aq.length:=by have:=b3.1;simpa using this.symm
 exact Ac
 ):p:=h
theorem Ad{p:Prop}(h:p:=by
 have aS:r.grownBy J (Value.slice A n c).ownBlock:=⟨cB.os,cB.tape,cB.output,by have:=cB.size;simp at this;omega,λk aj aH=>(cB.block k (by simp;omega) aH).trans (Below.heap_alloc r _ k aj)⟩
 obtain⟨a1,aW,rfl,hc,_⟩:=cj bE;exact Ae
 ):p:=h
theorem tL{p:Prop}(h:p:=by
 refine gX ?_;refine aB ?_;refine ca rfl (λK hK=>?_) rfl;go_simp;generalize hV:World.alloc _ _=V;have aK:=aF hV;have a9:=aY hV;clear hV;exact tM
 ):p:=h
theorem Af{p:Prop}(h:p:=by
 have b3:bs.length+bB.length<=16:=by have:=H.2.2.2.1;rw[<-bL,JK] at this;exact this
 have aa:=S.pos;have a2:=yq S hF aK hG bC bL a3 bQ aa;have cS:=hF.size;obtain⟨a0,al,af⟩:=S.blk.two;exact Ag
 ):p:=h
theorem Ah{p:Prop}(h:p:=by
 have d0:=(f.cell (p:=⟨b,o,none⟩) O).trans e0;have d1:=(f.cell (p:=⟨b,o+1,none⟩) O).trans e1;have d2:=(f.cell (p:=⟨b,o+2,none⟩) O).trans e2;have d3:=(f.cell (p:=⟨b,o+3,none⟩) O).trans e3;exact Ai
 ):p:=h
theorem Aj{p:Prop}(h:p:=by
 go_wp2;refine fj (λ_=>False) [(0,3),(1,3),(2,3),(3,3),(4,0),(8,3),(9,0),(10,3),(11,3),(14,3),(5,1),(6,3),(7,3),(12,2),(13,3),(15,3),(16,3),(17,3)] ?_
 iterate 2 refine pf ?_
 refine bf (v:=?_) rfl (by rfl) (λV=>?_) ?_;rotate_left
 .go_simp;exact dK
 try simp only[PU]
 refine pf ?_;refine ph ?_;refine pf ?_;refine ph ?_;refine pf ?_;refine bf (v:=?_) rfl (by rfl) (λV=>?_) ?_;rotate_left
 .go_simp;exact dK
 try simp only[PU]
 refine pf ?_;refine aP rfl (λK hK=>?_);go_simp;refine(aJ.o _ _ _ _ _ _ _ (D.on bl.o (Fr.ext Kf.drew)) f.o).mono ?_;rintro e aL ⟨rfl,L⟩;refine gu hK (L) ?_;clear hK K;refine bf (v:=?_) rfl (by rfl) (λV=>?_) ?_;rotate_left
 .go_simp;exact dK
 try simp only[PU]
 refine bf (v:=?_) rfl (by rfl) (λV=>?_) ?_;rotate_left
 .go_simp;exact dK
 try simp only[PU]
 refine az rfl (λK hK=>?_);go_simp;rw[x.o];refine((show gI th from a6.th) (t+1) bg n2 c2 _ J.o (aa.on (Fr.ext (Fr.aL L))) I.o).mono ?_;rintro e aV ⟨rfl,H⟩;refine eC hK ?_;clear hK K;refine bf (v:=?_) rfl (by rfl) (λV=>?_) ?_;rotate_left
 .go_simp;exact dK
 try simp only[PU]
 refine bf (v:=?_) rfl (by rfl) (λV=>?_) ?_;rotate_left
 .go_simp;exact dK
 try simp only[PU]
 refine bf (v:=?_) rfl (by rfl) (λV=>?_) ?_;rotate_left
 .go_simp;exact dK
 try simp only[PU]
 refine pf ?_;refine aG ?_;have bs:=ae ((Fr.aL L).trans H);obtain⟨v0,a7⟩:=Fr.xC bs.o;clear L H;exact vH
 ):p:=h
theorem Ak{p:Prop}(h:p:=by
 rintro e aL ⟨rfl,L⟩;refine gu hK (L) ?_;clear hK K;refine bf (v:=?_) rfl (by rfl) (λV=>?_) ?_;rotate_left
 .go_simp;exact dK
 try simp only[PU]
 refine bf (v:=?_) rfl (by rfl) (λV=>?_) ?_;rotate_left
 .go_simp;exact dK
 try simp only[PU]
 exact AB
 ):p:=h
theorem Al{p:Prop}(h:p:=by
 have aJ:=av a6 bM (bG.eQ bM λb O _=>ad);clear hX bG bM a6 bl U aE;have bK:=ca.on aJ.2.1 λb O=>ad;have bT:=bK.pos;have cG:=a2.2.2.2.2.2.2.2.2;have bH:=ae bK;clear bK;go_roundw
 case rel=>
  exact Gp
 case measure=>rw[bT,cG];have:=bH.lt;omega
 ):p:=h
theorem Am{p:Prop}(h:p:=by
 have aJ:=av a6 bM (bG.eQ bM λb O _=>ad);clear hX bG bM a6 bl U aE;have bK:=ca.on aJ.2.1 λb O=>ad;have bT:=bK.pos;have cG:=a2.2.2.2.2.2.2.2.2;have bH:=ae bK;clear bK;go_roundw
 case rel=>
  exact Gn
 case measure=>rw[bT,cG];have:=bH.lt;omega
 ):p:=h
theorem An{p:Prop}(h:p:=by
 go_wp2_with(fail);generalize hX:World.setCell _ _ _=X;obtain⟨a6,bf,y⟩:=bk (w:=w) [.int .i64 0,.int .i64 0,.slice none 0 0,.slice none 0 0] (by rfl) bd.2 bd.1 ad hX;have aJ:=ae bf;clear hX bf y a0 al af bh an aM Q;exact Hj
 ):p:=h
theorem Ao{p:Prop}(h:p:=by
 clear hx d hd;go_wp2;go_quiet (fail)
 go_wp2;go_roundw
 case rel=>
  refine⟨k+1,ad,by go_num,λj be=>?_,lz O _⟩;by_cases z:j<k
  .exact ay.o j z
  .obtain rfl:j=k:=ad;exact aJ.o
 case measure=>exact aU
 ):p:=h
theorem Ap{p:Prop}(h:p:=by
 have ch:g+1≠g:=ad;go_wp2_with(fail);refine(ky 5 g A n c T k 0 wr a2.1).mono ?_;rintro e v0 ⟨rfl,aO⟩;rw[cY.o];have bJ:=ak (a2.1.aj aO) (aO.mono (M':=λb=>b=g) λ_ h=>h.elim);clear aO a0 al af;exact Gl
 ):p:=h
theorem Aq{p:Prop}(h:p:=by
 obtain⟨bh,an,aM⟩:=a6.two;refine Ke (v:=.tuple #[.agg #[.int .i64 0,.int .i64 0,.slice none 0 0,.slice none 0 0],.bool false]) (by simp[results,Tryz.results114,go_sem,bh]) rfl ?_;exact⟨rfl,aJ.o⟩
 ):p:=h
theorem Ar{p:Prop}(h:p:=by
 rw[b6.o];exact eE (B:=V.heap.size) bw.1 bn.2 (λb O=>⟨λhl=>by have:=G.o b hl;omega,ad⟩) (λb O=>by have:=G.o b O;omega) ad bn.1 (by rw[dG br.2.1])
 ):p:=h
theorem As{p:Prop}(h:p:=by
 refine fj (λ_=>False) [(0,3),(1,3),(2,3),(3,0),(4,3),(5,0),(6,3),(7,3),(8,2)] ?_
 iterate 3 refine pf ?_
 refine ph ?_;refine pf ?_;refine ph ?_
 iterate 2 refine pf ?_
 exact gM
 ):p:=h
theorem At{p:Prop}(h:p:=by
 go_wp2_with(fail);refine(aJ.o rs cq b5 rc W ai.o f.o).mono ?_;rintro e aL ⟨rfl,L⟩;have bs:=ae L;clear L;exact vH
 ):p:=h
theorem Au{p:Prop}(h:p:=by
 have aI:=dq ht bx cz bu cJ cw;clear S hF aK hG bC bL aD a3 bQ aa cl cQ cz bu bA cJ cw ht bx bd bS b3;exact Gm
 ):p:=h
theorem Av{p:Prop}(h:p:=by
 by_cases be:j<i
 .exact bd.2 j be
 .rw[List.getElem?_eq_none (aC bN.1),List.getElem?_eq_none (aC bN.2.1)]
 ):p:=h
theorem Aw{p:Prop}(h:p:=by
 clear hx d hd;go_wp2;go_quiet (fail)
 go_wp2;go_ret;exact⟨ret_bool (by rw[a2.o]),lz O _⟩
 ):p:=h
theorem Ax{p:Prop}(h:p:=by
 go_wp2;go_roundw
 case rel=>exact⟨k+1,ad,by go_num,aT.o,bt.o⟩
 case measure=>exact aU
 ):p:=h
theorem tN{p:Prop}(h:p:=by
 refine eC hK ?_;clear hK K;refine pf ?_;exact gM
 ):p:=h
theorem Ay{p:Prop}(h:p:=by
 refine(g7 g A n c T k deep W t ab.1 br.1 br.2.1 ad).mono ?_;exact yX
 ):p:=h
theorem Az{p:Prop}(h:p:=by
 have d8:O<cJ.heap.size:=ad
 iterate 2 refine pf ?_
 exact gM
 ):p:=h
theorem AA{p:Prop}(h:p:=by
 refine ph ?_;refine bf (v:=?_) rfl (by rfl) (λV=>?_) ?_;rotate_left
 .go_simp;exact dK
 try simp only[PU]
 refine pf ?_;refine ph ?_;refine aP rfl (λK hK=>?_);go_simp;refine(aJ.o bz n1 c1 _ (M.on (Fr.ext Kf.drew)) f.o ah.o).mono ?_;exact Ak
 ):p:=h
theorem AB{p:Prop}(h:p:=by
 refine pf ?_;refine aG ?_;have bs:=ae (Fr.aL L);clear L;exact vH
 ):p:=h
end Go.Proofs.YtnigabjngpnbiaaGreat
