/- Part 1 of the proof. No condition of its own. -/
import Derived.BigQuiet
import Derived.Deep.Cut
import Derived.Deep.DrawnRows
import Derived.Deep.Draws
import Derived.Deep.QuietTactic
import Derived.Deep.RegionHeld3
import Derived.DeepKeys
import Derived.Handy
import Derived.IntWalk
import Derived.Laws.CopyOwn
import Derived.Laws.IdiomStrings
import Derived.Laws.StructEq
import Derived.Lib.Bytes
import Derived.Lib.SlBytesConst
import Derived.Lib.SlBytesRow
import Derived.Maps.AppendAt
import Derived.OrdersHeld
import Derived.RegionTactic
import Derived.StillTail
import Derived.Test.YtflecliffjbleaaGreatRows
import Derived.WalkKit
import Derived.WalkLawsBesides
import Derived.WalkSpells
import Derived.Test.YtflecliffjbleaaGreatQ00
namespace Go.Proofs.YtflecliffjbleaaGreat
open Go.RowKit Go.Proofs.Tryz
set_option maxRecDepth 1000000
set_option maxHeartbeats 25600000
set_option linter.unusedVariables false
theorem Lb:type_of% @Nat.le_refl:=@Nat.le_refl
theorem Lc:type_of% @Nat.lt_of_lt_of_le:=@Nat.lt_of_lt_of_le
theorem Ld:type_of% @List.length_append:=@List.length_append
theorem Le:type_of% @List.mem_of_getElem?:=@List.mem_of_getElem?
theorem Lf:type_of% @List.length_map:=@List.length_map
theorem Lg:type_of% @Int.eq_ofNat_of_zero_le:=@Int.eq_ofNat_of_zero_le
theorem Lh:type_of% @List.map_cons:=@List.map_cons
theorem Li:type_of% @List.map_append:=@List.map_append
theorem Lj:type_of% @List.take_of_length_le:=@List.take_of_length_le
theorem Lk:type_of% @List.mem_append:=@List.mem_append
theorem Ll:type_of% @Nat.add_zero:=@Nat.add_zero
theorem Lm:type_of% @List.length_singleton:=@List.length_singleton
theorem Ln:type_of% @Bool.and_eq_true:=@Bool.and_eq_true
theorem Lo:type_of% @List.length_cons:=@List.length_cons
theorem Lp:type_of% @List.append_assoc:=@List.append_assoc
theorem Lq:type_of% @List.cons_append:=@List.cons_append
theorem Lr:type_of% @List.mem_cons:=@List.mem_cons
theorem Ls:type_of% @Nat.le_trans:=@Nat.le_trans
theorem Lt:type_of% @Nat.zero_add:=@Nat.zero_add
theorem Lu:type_of% @List.length_nil:=@List.length_nil
theorem Lv:type_of% @List.flatMap_cons:=@List.flatMap_cons
theorem Lw:type_of% @Int.toNat_natCast:=@Int.toNat_natCast
theorem Lx:type_of% @Nat.zero_le:=@Nat.zero_le
theorem Ly:type_of% @List.map_nil:=@List.map_nil
theorem Lz:type_of% @List.mem_map:=@List.mem_map
theorem LC:type_of% @List.append_nil:=@List.append_nil
theorem LD:type_of% @List.nil_append:=@List.nil_append
theorem LF:type_of% @List.mem_singleton:=@List.mem_singleton
theorem LG:type_of% @Option.some.injEq:=@Option.some.injEq
theorem LH:type_of% @List.drop_eq_nil_of_le:=@List.drop_eq_nil_of_le
theorem LI:type_of% @decide_eq_true_eq:=@decide_eq_true_eq
theorem LJ:type_of% @Bool.false_eq_true:=@Bool.false_eq_true
theorem LK:type_of% @bodyPost_ret:=@bodyPost_ret
theorem LL{M:Nat->Prop}{w:World}:Fr M w w:=Fr.refl _ _
theorem LM{w:World}{t:TypeId}{cs:Array Value}:an (w.alloc (.cells cs t)) w.heap.size t cs:=an.new _ _ _
theorem ab{p:Prop}(h:p:=by omega):p:=h
theorem aC{p q:Prop}(x:q)(h:q->p:=by intro this;omega):p:=h x
theorem pF{p q r:Prop}(x:q)(y:r)(h:q->r->p:=by intro this this;omega):p:=h x y
theorem aM{A B:Prop}(a:A)(b:B):LR A/\LR B:=⟨ad a,ad b⟩
theorem eG{A B C:Prop}(a:A)(b:B)(c:C):LR A/\LR B/\LR C:=⟨ad a,ad b,ad c⟩
theorem iR{A B C D:Prop}(a:A)(b:B)(c:C)(d:D):LR A/\LR B/\LR C/\LR D:=⟨ad a,ad b,ad c,ad d⟩
theorem CO{A B C D E:Prop}(a:A)(b:B)(c:C)(d:D)(e:E):LR A/\LR B/\LR C/\LR D/\LR E:=⟨ad a,ad b,ad c,ad d,ad e⟩
theorem CP{A B C D E F G:Prop}(a:A)(b:B)(c:C)(d:D)(e:E)(f:F)(g:G):LR A/\LR B/\LR C/\LR D/\LR E/\LR F/\LR G:=⟨ad a,ad b,ad c,ad d,ad e,ad f,ad g⟩
theorem az{p:Prop}(h:p:=by simp[intOf];omega):p:=h
theorem ah{A B:Prop}(a:A)(b:B):LR (A/\B):=ad ⟨a,b⟩
theorem aL{A B C:Prop}(a:A)(b:B)(c:C):LR (A/\B/\C):=ad ⟨a,b,c⟩
theorem bG{A B C D:Prop}(a:A)(b:B)(c:C)(d:D):LR (A/\B/\C/\D):=ad ⟨a,b,c,d⟩
theorem dq{A B C D E:Prop}(a:A)(b:B)(c:C)(d:D)(e:E):LR (A/\B/\C/\D/\E):=ad ⟨a,b,c,d,e⟩
theorem ej{A B C D E F:Prop}(a:A)(b:B)(c:C)(d:D)(e:E)(f:F):LR (A/\B/\C/\D/\E/\F):=ad ⟨a,b,c,d,e,f⟩
theorem gY{A B C D E F G:Prop}(a:A)(b:B)(c:C)(d:D)(e:E)(f:F)(g:G):LR (A/\B/\C/\D/\E/\F/\G):=ad ⟨a,b,c,d,e,f,g⟩
theorem xu{A B C D E F G H:Prop}(a:A)(b:B)(c:C)(d:D)(e:E)(f:F)(g:G)(h:H):LR (A/\B/\C/\D/\E/\F/\G/\H):=ad ⟨a,b,c,d,e,f,g,h⟩
theorem xv{A B C D E F G H I:Prop}(a:A)(b:B)(c:C)(d:D)(e:E)(f:F)(g:G)(h:H)(i:I):LR (A/\B/\C/\D/\E/\F/\G/\H/\I):=ad ⟨a,b,c,d,e,f,g,h,i⟩
theorem z8{A B C D E F G H I J:Prop}(a:A)(b:B)(c:C)(d:D)(e:E)(f:F)(g:G)(h:H)(i:I)(j:J):LR (A/\B/\C/\D/\E/\F/\G/\H/\I/\J):=ad ⟨a,b,c,d,e,f,g,h,i,j⟩
theorem bb{w W:World}{o1:Obj}(h:w.alloc o1=W):Ext w W:=by subst h;exact LL.alloc _
theorem im{w W:World}{o1 fg:Obj}(h:(w.alloc o1).alloc fg=W):Ext w W:=by subst h;exact(LL.alloc _).alloc _
theorem nt{w W:World}{o1 fg o3:Obj}(h:((w.alloc o1).alloc fg).alloc o3=W):Ext w W:=by subst h;exact((LL.alloc _).alloc _).alloc _
theorem Jg{w W:World}{o1 fg o3 o4:Obj}(h:(((w.alloc o1).alloc fg).alloc o3).alloc o4=W):Ext w W:=by subst h;exact(((LL.alloc _).alloc _).alloc _).alloc _
theorem aT{w W:World}{t:TypeId}{cs:Array Value}(h:w.alloc (.cells cs t)=W):an W (w.heap.size) t cs:=by subst h;exact LM
theorem fU{w W:World}{fg:Obj}{t:TypeId}{cs:Array Value}(h:(w.alloc (.cells cs t)).alloc fg=W):an W (w.heap.size) t cs:=by subst h;exact(LM).alloc _
theorem fL{w W:World}{o1:Obj}{t:TypeId}{cs:Array Value}(h:(w.alloc o1).alloc (.cells cs t)=W):an W (w.heap.size+1) t cs:=by subst h;exact an.hY _ _ _ (by simp)
theorem lL{w W:World}{fg o3:Obj}{t:TypeId}{cs:Array Value}(h:((w.alloc (.cells cs t)).alloc fg).alloc o3=W):an W (w.heap.size) t cs:=by subst h;exact((LM).alloc _).alloc _
theorem jv{w W:World}{o1 o3:Obj}{t:TypeId}{cs:Array Value}(h:((w.alloc o1).alloc (.cells cs t)).alloc o3=W):an W (w.heap.size+1) t cs:=by subst h;exact(an.hY _ _ _ (by simp)).alloc _
theorem lM{w W:World}{o1 fg:Obj}{t:TypeId}{cs:Array Value}(h:((w.alloc o1).alloc fg).alloc (.cells cs t)=W):an W (w.heap.size+2) t cs:=by subst h;exact an.hY _ _ _ (by simp)
theorem Ha{w W:World}{o1 fg:Obj}{t:TypeId}{cs:Array Value}(h:((w.alloc o1).alloc fg).alloc (.cells cs t)=W):an W (w.heap.size+1+1) t cs:=by subst h;exact an.hY _ _ _ (by simp)
theorem It{w W:World}{fg o3 o4:Obj}{t:TypeId}{cs:Array Value}(h:(((w.alloc (.cells cs t)).alloc fg).alloc o3).alloc o4=W):an W (w.heap.size) t cs:=by subst h;exact(((LM).alloc _).alloc _).alloc _
theorem Iu{w W:World}{o1 o3 o4:Obj}{t:TypeId}{cs:Array Value}(h:(((w.alloc o1).alloc (.cells cs t)).alloc o3).alloc o4=W):an W (w.heap.size+1) t cs:=by subst h;exact((an.hY _ _ _ (by simp)).alloc _).alloc _
theorem Iv{w W:World}{o1 fg o4:Obj}{t:TypeId}{cs:Array Value}(h:(((w.alloc o1).alloc fg).alloc (.cells cs t)).alloc o4=W):an W (w.heap.size+2) t cs:=by subst h;exact(an.hY _ _ _ (by simp)).alloc _
theorem Iw{w W:World}{o1 fg o3:Obj}{t:TypeId}{cs:Array Value}(h:(((w.alloc o1).alloc fg).alloc o3).alloc (.cells cs t)=W):an W (w.heap.size+3) t cs:=by subst h;exact an.hY _ _ _ (by simp)
theorem gX{w W:World}{o1:Obj}(h:(w.alloc o1).drew=W):Ext w W:=by subst h;exact(LL.alloc _).drew
theorem lN{w W:World}{t:TypeId}{cs:Array Value}(h:(w.alloc (.cells cs t)).drew=W):an W (w.heap.size) t cs:=by subst h;exact(LM).drew
theorem dj{w X:World}{g o:Nat}{v:Value}(h:w.setCell ⟨g,o,none⟩ v=X):Fr (λb=>b=g) w X:=by subst h;exact(Fr.refl (λb=>b=g) w).setCell (.inl rfl) _
theorem EU{w X:World}{g o p:Nat}{v u:Value}(h:(w.setCell ⟨g,o,none⟩ v).setCell ⟨g,p,none⟩ u=X):Fr (λb=>b=g) w X:=by subst h;exact((Fr.refl (λb=>b=g) w).setCell (.inl rfl) _).setCell (.inl rfl) _
theorem dW{p:Prop}(h:p:=by
 rw[if_neg (by first|omega|(simp only[ByteArray.size_append];omega)|(simp;omega))]
 ):p:=h
theorem F9{p:Prop}(h:p:=by
 have bV:=bG K x J bY.2.2;clear K x J cu y ag;have f2:=bV.2.1.size;by_cases f0:j+1<N
 .refine(show Calls prog 62 #[.pointer (some ⟨g,0,none⟩),.string ⟨#[44]⟩] b5 _ from cq [44] g A n c T (k+1+3*j+2) deep b5 bV.1 true (by rw[bU.2.2.co j ab];exact decide_eq_true ab) (λ_=>ab)).mono ?_;rintro e cx ⟨rfl,aY,f⟩;have G:=aL (show bu cx g A n c T (k+1+3*(j+1)) deep from by rw[show k+1+3*(j+1)=k+1+3*j+2+1 by omega];simpa using aY) (bV.2.1.trans f) (bV.2.2.1.cS f λb O _=>⟨ab,ab⟩);clear aY f;go_wp2_with(fail);go_roundw
  case rel=>exact⟨j+1,ck,c3,rfl,f0,G.o⟩
  case measure=>simp[DC];omega
 .refine(show Calls prog 62 #[.pointer (some ⟨g,0,none⟩),.string ⟨#[44]⟩] b5 _ from cq [44] g A n c T (k+1+3*j+2) deep b5 bV.1 false (by rw[bU.2.2.co j ab];exact decide_eq_false ab) (λh=>by cases h)).mono ?_;rintro e cx ⟨rfl,aY,f⟩;have G:=aL (show bu cx g A n c T (k+1+3*j+2) deep from by simpa using aY) (bV.2.1.trans f) (bV.2.2.1.cS f λb O _=>⟨ab,ab⟩);clear aY f;go_wp2_with(fail);refine(show Calls prog 106 #[.pointer (some ⟨g,0,none⟩),.string ⟨#[41]⟩] cx _ from jb [41] g A n c T (k+1+3*j+2) deep cx G.1 (bU.2.2.cl j ab) ab).mono ?_;rintro e gL ⟨rfl,aY,I⟩;have L:=G.2.2.cS I λb O _=>⟨ab,ab⟩
  have q:=aL (show bu gL g A n c T (k+1+3*N) deep from by rw[show k+1+3*N=k+1+3*j+2+1 by omega];exact aY) (G.2.1.trans I) L;clear aY I L;go_wp2_with(fail);go_ret;refine⟨ck,j+1,c3,rfl,bV.2.2.2,by rw[hN];exact q.1,q.2.1,?_⟩;have hG:=q.2.2;rw[Lj ab] at hG;exact hG.sl (λb aw O=>⟨O,aw⟩) (λb aw O=>⟨O,aw⟩)
 ):p:=h
theorem Ga{p:Prop}(h:p:=by
 go_upto_region 31 with(fail);refine eU (λ_=>False) [(0,3),(1,3),(2,3),(3,3),(4,3),(5,0),(6,0),(7,1),(8,2),(9,3),(10,3),(11,3),(12,2)] ?_
 iterate 5 refine pf ?_
 iterate 2 refine ph ?_
 refine r9 ?_;generalize bD:World.drew (World.alloc _ _)=Z;have bn:=gX bD;have bH:=lN bD;have bp:=hx.next (hx.src.cM bn λ_ _ h=>h) (bn.mono λ_ h=>h.elim);have bK:=b0.2.2.2.aj bn;have hP:∀b,(Value.slice FA i fc).ownBlock=some b->u<=b/\b<a6.heap.size:=λb O=>cb.fs.lt O;have iu:=cb.hD;have bZ:Sl Z (lu (λb=>u<=b) Z (.slice FA i fc)) PA pn (ps.map ct):=bK.sl (λb _ h=>h.elim) (λb O aN=>⟨ab,O,λh=>by have:=(hP b h).2;omega⟩);have ir:a6.heap.size<=Z.heap.size:=by have:=b0.2.1.size;have:=bn.size;omega
 have bc:=bG bp bH bZ b0.2.2.2.cap.1;have gU:=ad hP;have iw:=cb.blk.lt;clear bD bn bH bp bK bZ hP a0 ap aj f0 cJ dD;refine aq rfl (λK hK=>?_);rw[if_pos (by rfl)];refine eX Hg (.tmp 177) (.tmp 179) (by rfl) bc.1.fs bc.2.1 (FI bc.2.2.2 bc.2.2.1) (by rfl) (by rfl) (by rfl) ab ab ab ?_;intro hY hR gL bu z c0 ck;have aQ:=bc.1.blk.on z (λO=>by have:=(gU.o _ O).1;omega);have ba:=ah bu z;clear bu z c0 ck;obtain⟨a0,ap,aj⟩:=aQ.two;clear aQ;refine eL hK ?_;clear hK K
 iterate 3 refine pf ?_
 refine aq rfl (λK hK=>?_);go_simp;refine eL hK ?_;clear hK K;refine aB ?_;generalize fn:World.setCell _ _ _=gR;obtain⟨bl,bB,gI⟩:=h3.o;have f:=bc.1.add ba.1 ba.2 ab (cb.Js.snoc cn bB gI gH.1);rw[fn] at f;have bx:=ad f;clear fn f a0 ap aj gI;go_wp2_with(fail);go_roundw
 case rel=>exact⟨i+1,hY,hR,F++[⟨jD i,ps,.nil⟩],by go_num,ab,bx.o⟩
 case measure=>exact az
 ):p:=h
theorem Gb{p:Prop}(h:p:=by
 go_upto_region 24 with(fail);generalize bp:World.alloc _ _=A;have n:=bb bp;have ak:=aT bp;have r:=bw.trans n;have m:=aL (RO.aj aR.1 r) (aR.2.1.trans r) (aR.2.2.trans r);have aQ:=ah ak n;have bZ:=n.size;have dg:=bw.size;have L:=ad m.2.2;clear bp n r;obtain⟨a3,am,aJ⟩:=(aH.2.2.1.aj m.2.2).two;obtain⟨d0,af,aS⟩:=(b6.aj m.2.1).two;obtain⟨e0,bk,a5⟩:=m.1.o.two;obtain⟨bt,k,flb,ac,J,c0,c1,c2,c3,aW⟩:=m.1.top;obtain⟨f0,cJ,dD⟩:=ak.two;clear ak;have cV:=L.size;go_wp2_with(fail);refine(pg P s ⟨bM,b2,bo,TA,tn,tc,HA,hn,hc⟩ z A (ch.2.2.GR l.o (aH.1.trans L.o)) (λb O=>Lc (l.o b O) (aH.1.trans L.o).size)).mono ?_;rintro e b5 ⟨⟨df,bI,bX,bY,bN,bB,bQ,cl,bR⟩,rfl,cc,a4⟩;have f2:=a4.size;have co:=ad cc;have aZ:=ah (aH.2.2.2.1.aj (L.trans a4)) ((aH.1.trans L.o).trans a4);clear cc a4 f0 cJ dD d0 af aS e0 bk a5 c0 c1 c2 c3 J flb ac bt k aW a3 am aJ;obtain⟨bE,bg,bh⟩:=aZ.1.two;go_wp2_with(fail);generalize hX:World.setCell _ _ _=Z;obtain⟨bH,bn,bC⟩:=cm (w:=w) [.slice df bI bX,.slice bY bN bB,.slice bQ cl bR,.int .i64 z] (by rfl) aZ.1 aZ.2 ab hX;have bc:=ah bn bC;clear hX bn bC bE bg bh;obtain⟨bE,bg,bh⟩:=bH.two;refine LK (v:=.tuple #[.agg #[.slice df bI bX,.slice bY bN bB,.slice bQ cl bR,.int .i64 z],.bool true]) (by simp[results,Tryz.results20,go_sem,bE]) rfl ?_;rw[b0.o];exact e5 (B:=A.heap.size) (a7:={s with fault:=z}) co.o bc.2 (λb O=>⟨λhl=>by have:=l.o b hl;omega,ab⟩) (λb O=>by have:=l.o b O;omega) ab bc.1 rfl
 ):p:=h
theorem Gc{p:Prop}(h:p:=by
 rintro r aP ⟨rfl,bL⟩;have aF:Ext w aP:=aE.trans (Fr.of bL);obtain⟨p0,ag,ey⟩:=(d.aj (Fr.of bL)).two;have gG:=(aF.cell (j:=bp+i*3+2) b2 (λh=>h)).trans f2;have bs:=ad aF;clear aE aF d e0 e1 e2 e3 f0 f1 f2 cE cd bL;generalize ev g l e=r at *;obtain⟨v,f⟩:=r;by_cases J:f=0
 case neg=>
  have q5:(f != 0)=true:=by simpa using J
  have ct:=ad (show idx fV.size (v,f)=(0,f) by unfold idx;rw[if_pos J]);clear J;go_wp2
  go_ret2
  exact fS.mk' ct.o (Fr.ext bs.o)
 have q5:(f != 0)=false:=by simpa using J
 by_cases bD:v<0
 .have c7:decide (v<0)=true:=by simpa using bD
  have ct:=ad (show idx fV.size (v,f)=(0,2) by unfold idx;rw[if_neg (by simpa using J),if_pos (.inl bD)]);clear J bD;go_wp2
  go_ret2
  exact fS.mk' ct.o (Fr.ext bs.o)
 have c7:decide (v<0)=false:=by simpa using bD
 by_cases u:fV.size<=v
 .have q7:decide (v>=fV.size)=true:=by simpa using u
  have ct:=ad (show idx fV.size (v,f)=(0,2) by unfold idx;rw[if_neg (by simpa using J),if_pos (.inr u)]);clear J bD u;go_wp2
  go_ret2
  exact fS.mk' ct.o (Fr.ext bs.o)
 .have q7:decide (v>=fV.size)=false:=by simpa using u
  have ct:=ad (show idx fV.size (v,f)=(v,0) by unfold idx;rw[if_neg (by simpa using J),if_neg ab]);clear J bD u;go_wp2
  go_ret2
  exact fS.mk' ct.o (Fr.ext bs.o)
 ):p:=h
theorem xw{p:Prop}(h:p:=by
 go_wp2;go_roundw
 case rel=>exact⟨k+1,ab,by go_num,by rw[<-ag.o],a8.trans (z.trans bs.o)⟩
 case measure=>exact az
 ):p:=h
theorem Gd{p:Prop}(h:p:=by
 have b0:=ad (a1.o H);have aZ:=ah (aH.2.2.2.1.aj bP.2.2) (aH.1.trans bP.2.2);have cy:=bP.2.2.size;obtain⟨bE,bg,bh⟩:=aZ.1.two;obtain⟨e0,bk,a5⟩:=bP.2.1.two;go_wp2_with(fail);generalize hX:World.setCell _ _ _=Z;obtain⟨bH,bn,bC⟩:=cm (w:=w) [.slice de cH bG,.slice I tn aA,.slice (some ⟨O,0,none⟩) bT a9,.int .i64 s.fault] (by rfl) aZ.1 aZ.2 ab hX;have bc:=ah bn bC;clear hX bn bC bE bg bh e0 bk a5;obtain⟨bE,bg,bh⟩:=bH.two;refine LK (v:=.tuple #[.agg #[.slice de cH bG,.slice I tn aA,.slice (some ⟨O,0,none⟩) bT a9,.int .i64 s.fault],.bool true]) (by simp[results,Tryz.results20,go_sem,bE]) rfl ?_;exact Bc
 ):p:=h
theorem Ge{p:Prop}(h:p:=by
 have aZ:=ah (aH.2.2.2.1.aj bP.2.2) (aH.1.trans bP.2.2);have cy:=bP.2.2.size;obtain⟨bE,bg,bh⟩:=aZ.1.two;obtain⟨e0,bk,a5⟩:=bP.2.1.two;go_wp2_with(fail);generalize hX:World.setCell _ _ _=Z;obtain⟨bH,bn,bC⟩:=cm (w:=w) [.slice de cH bG,.slice cD ai aV,.slice (some ⟨O,0,none⟩) bT a9,.int .i64 s.fault] (by rfl) aZ.1 aZ.2 ab hX;have bc:=ah bn bC;clear hX bn bC bE bg bh e0 bk a5;obtain⟨bE,bg,bh⟩:=bH.two;refine LK (v:=.tuple #[.agg #[.slice de cH bG,.slice cD ai aV,.slice (some ⟨O,0,none⟩) bT a9,.int .i64 s.fault],.bool true]) (by simp[results,Tryz.results20,go_sem,bE]) rfl ?_;rw[b0.o];exact e5 (B:=V.heap.size) bP.1 bc.2 (λb O=>⟨λhl=>by have:=l.o b hl;omega,ab⟩) (λb O=>by have:=l.o b O;omega) ab bc.1 (by rw[lA bU.2.1,List.set_set];rfl)
 ):p:=h
theorem CQ{p:Prop}(h:p:=by
 exact Bc
 ):p:=h
theorem Gf{p:Prop}(h:p:=by
 have aL:=ah S aA;have bV:=aH.2.2.2.1.on ao.2 (λh=>by have:=aH.2.2.2.2;omega);have aO:=ad bV;obtain⟨e0,bk,a5⟩:=bV.two;clear h he S aA bV;go_wp2_with(fail);generalize b7:World.setCell _ _ _=Y;obtain⟨bz,bA,bj⟩:=dR (M:=λb=>b=s) [.int .i64 1,.int .i64 aZ,.string ⟨#[]⟩,.slice none 0 0] (by rfl) aO.o (aH.2.2.1.trans ao.2) (Lb _) b7;obtain⟨bE,bg,bh⟩:=bz.two;refine LK (v:=.agg #[.int .i64 1,.int .i64 aZ,.string ⟨#[]⟩,.slice none 0 0]) (by simp[results,Tryz.results140,go_sem,bE]) rfl ?_;exact⟨.num aZ,none,0,0,rfl,(by cases d<;>exact aL.o),Lb _,Sl.bN _,ao.1.cM bj (λb O h=>by have:=aH.2.2.2.2;omega),bA⟩
 ):p:=h
theorem Gg{p:Prop}(h:p:=by
 clear h;go_enter func55,ntmps55;go_upto_region 1 with(fail);generalize be:World.alloc _ _=W;have aE:=im be;have aN:=fU be;have cg:=fL be;obtain⟨a0,ap,aj⟩:=aN.two;obtain⟨bE,bg,bh⟩:=cg.two;have a8:=ah aE cg;clear be aE aN cg;go_wp2_with(fail);generalize hX:World.setCell _ _ _=X;obtain⟨bw,bq,bO⟩:=cm (w:=w) [.int .i64 0,.int .i64 0,.slice none 0 0,.slice none 0 0] (by rfl) a8.2 a8.1 ab hX;have aR:=ad bq;clear hX bq bO a0 ap aj bE bg bh;exact Bb
 ):p:=h
theorem Gh{p:Prop}(h:p:=by
 obtain⟨bE,bg,bh⟩:=aZ.1.two;go_wp2_with(fail);generalize hX:World.setCell _ _ _=Z;obtain⟨bH,bn,bC⟩:=cm (w:=w) [.slice df bI bX,.slice bY bN bB,.slice bQ cl bR,.int .i64 z] (by rfl) aZ.1 aZ.2 ab hX;have bc:=ah bn bC;clear hX bn bC bE bg bh;obtain⟨bE,bg,bh⟩:=bH.two;refine LK (v:=.tuple #[.agg #[.slice df bI bX,.slice bY bN bB,.slice bQ cl bR,.int .i64 z],.bool true]) (by simp[results,Tryz.results20,go_sem,bE]) rfl ?_;rw[b0.o];exact e5 (B:=cz.heap.size) (a7:={s with fault:=z}) co.o bc.2 (λb O=>⟨λhl=>by have:=l.o b hl;omega,ab⟩) (λb O=>by have:=l.o b O;omega) ab bc.1 rfl
 ):p:=h
theorem Ix{p:Prop}(h:p:=by
 exact Bb
 ):p:=h
theorem Gi{p:Prop}(h:p:=by
 have c0:=Z 0 cu rfl;have c1:=Z 1 cr rfl;have c2:=Z 2 br rfl;have c3:=Z 3 aa rfl;simp only[Ll] at c0;have aX:b<wr.heap.size:=O;clear Z O;obtain⟨B,bG,fk,e,cC,b4⟩:=aW.1 bS;simp only[List.cons.injEq,and_true] at e;obtain⟨rfl,rfl,rfl,rfl⟩:=e;obtain⟨bP,J⟩:=aM a4 bS;clear a4 bS b4;go_wp2_with(fail);refine(ct.o k z bP.o _ _ _ _ _ _ wr J.o).mono ?_;rintro e aV ⟨rfl,bU⟩;have a7:=ad (a8.trans bU);have b8:=ad (bx.aj bU);clear bU;exact Bg
 ):p:=h
theorem Gj{p:Prop}(h:p:=by
 go_wp2_with(fail);refine(show Calls prog 106 #[.pointer (some ⟨g,0,none⟩),.string ⟨#[40]⟩] w _ from jb [40] g A n c T k deep w H.o bU.1 ab).mono ?_;rintro e aP ⟨rfl,aY,hF⟩;have H1:=ah aY hF;clear aY hF;go_wp2_with(fail);refine(show Calls prog 62 #[.pointer (some ⟨g,0,none⟩),.string ⟨#[41]⟩] aP _ from cq [41] g A n c T (k+1) deep aP H1.1 true bU.2 (λ_=>ab)).mono ?_;rintro e aV ⟨rfl,aY,hF⟩;have bt:=ah (show bu aV g A n c T (k+2) deep from by simpa using aY) (H1.2.trans hF);clear aY hF H1;go_wp2_with(fail);go_ret;exact⟨rfl,bt.o⟩
 ):p:=h
theorem Gk{p:Prop}(h:p:=by
 rintro e aP ⟨rfl,aF⟩;have bs:=ad (a8.1.trans aF);clear a0 ap aj a3 am aJ aF
 cases f:vo u s (k:Int) with
 | true=>
  have b0:=ad (uF (aC cr.2) f);clear f;go_wp2_with(fail);go_ret
  exact⟨by rw[b0.o];rfl,aH.1.trans bs.o⟩
 | false=>
  have g:=ad f;clear f;go_wp2_with(fail);go_roundw
  case rel=>exact⟨k+1,by go_num,ab,bs.o,λj bd=>by
   rcases Nat.lt_or_ge j k with ae|ae
   .exact a8.2 j ae
   .rw[show j=k by omega];exact g.o⟩
  case measure=>exact az
 ):p:=h
theorem Gl{p:Prop}(h:p:=by
 rw[a1 bU.o,qD,<-List.append_assoc,Li,bs];have ae:=(al.c7 (ac:=X) b1.size λb aw hp=>b1.block b aw λhe=>by
  subst he;rcases hp with hp|hp
  .exact hp.elim
  .exact cl.1 hp).c7 (ac:=cA) T.size λb aw hp=>T.block b aw λhe=>by
  subst he;rcases hp with hp|hp
  .exact hp.elim
  .exact cl.2 hp
 show Gr (λ_=>False) W.heap.size 147 3 cA A2 (ln+k+1) c2 _
 simpa using ae
 ):p:=h
theorem Gm{p:Prop}(h:p:=by
 go_wp2_with(fail);generalize b7:World.setCell _ _ _=Y;obtain⟨bz,bA,bj⟩:=dR (M:=λ_=>False) [.slice none 0 0,.slice none 0 0,.slice none 0 0] (by rfl) bB.2.2.1 (w:=w) bB.1 ab b7;obtain⟨bE,bg,bh⟩:=bz.two;refine LK (v:=.tuple #[.agg #[.slice none 0 0,.slice none 0 0,.slice none 0 0],.int .i64 11]) (by simp[results,Tryz.results57,go_sem,bE]) rfl ?_;exact⟨_,_,_,_,_,_,_,_,_,_,rfl,bA⟩
 ):p:=h
theorem Gn{p:Prop}(h:p:=by
 go_wp2_with(at_builtin;refine bV aV kB rfl (.tmp 28) (.tmp 30) rfl (w.heap.size+1) _ k _ #[_] rfl bn.o rfl rfl (by simp[Value.oneCell']) ab ab b4 ?_;intro bz b3 G a5 aF;obtain⟨ck,c3,rfl,aS,_⟩:=bx G);go_roundw
 case rel=>
  refine⟨k+1,ab,by go_num,f.on (Hs bn.o a5 λg aK=>aK),?_⟩;rw[w8 P.o,<-ag.o];exact G
 case measure=>exact az
 ):p:=h
theorem Gp{p:Prop}(h:p:=by
 by_cases ae:op=16
 .refine .inl ⟨by simpa using ae,?_,by simp;omega⟩;have:v1≠0:=λaH=>aW ⟨ae,aH⟩;simpa using this
 .by_cases aD:op=17
  .refine .inr (.inl ⟨by simpa using ae,by simpa using aD,?_⟩);by_cases bD:v1=0
   .simpa using bD
   .exact absurd ⟨aD,bD⟩ bl
  .exact .inr (.inr ⟨by simpa using ae,by simpa using aD⟩)
 ):p:=h
theorem Gq{p:Prop}(h:p:=by
 rintro a5 bj ⟨rfl,ar⟩;have aG:=ad (F.trans ar);have a1:=ad (aO.trans ar);have bl:=ad (av.aj ar);have bQ:=ad (bQ.aj ar);clear a0 ap aj F aO av;obtain⟨a0,ap,aj⟩:=bQ.two;clear a0 ap aj;obtain⟨a0,ap,aj⟩:=bQ.two;go_wp2;go_roundw
 case rel=>exact⟨j+1,ab,by go_num,aG.o,a1.o,bl.o⟩
 case measure=>exact az
 ):p:=h
theorem CR{p:Prop}(h:p:=by
 constructor
 .rintro⟨y,rfl,h⟩;rw[a5] at h;obtain⟨br,rfl,h⟩:=h;rw[aK] at h;subst h;rfl
 .rintro rfl;exact⟨_,rfl,a5.2 ⟨_,rfl,aK.2 rfl⟩⟩
 ):p:=h
theorem tL{p:Prop}(h:p:=by
 go_enter func54,ntmps54;go_wp2_with(fail);go_ret;exact⟨rfl,LL.alloc _⟩
 ):p:=h
theorem xx{p:Prop}(h:p:=by
 generalize (Value.agg #[.int .i64 x.aZ,.int .i64 x.numOf,.string x.bk,.slice cu cr cD])=Y;intro av;exact key aZ Y _ av
 ):p:=h
theorem xy{p:Prop}(h:p:=by
 go_wp2;go_roundw
 case rel=>exact⟨k+1,ab,by go_num,by rw[<-ag.o],bs.o⟩
 case measure=>exact az
 ):p:=h
theorem Gs{p:Prop}(h:p:=by
 rintro e aD ⟨rfl,he⟩;have a7:=ad (bs.trans he);have y:=ad (m.trans he);have b8:=ad (G.aj he);clear he a0 ap aj bs m G;obtain⟨a0,ap,aj⟩:=b8.two;go_wp2;refine wp_loop_rounds 1 ?_;rw[rounds_succ];go_wp2;go_roundw
 case rel=>exact⟨k+1,ab,by go_num,a7.o⟩
 case measure=>exact az
 ):p:=h
theorem xz{p:Prop}(h:p:=by
 rcases O with O|O
 .rw[O] at hc;exact aX.2.2 hc
 .rw[O] at hc;injection hc with hc;have:=aX.2.1;omega
 ):p:=h
theorem xA{p:Prop}(h:p:=by
 refine fin _ λs hs=>?_;rcases Lr.1 hs with rfl|hs
 .exact⟨c,c⟩
 .exact ao.2 s hs
 ):p:=h
theorem Gt{p:Prop}(h:p:=by
 exact Bg
 ):p:=h
theorem CS{p:Prop}(h:p:=by
 obtain⟨A,n,c,ae,aD,aU⟩:=h.ex;exact⟨Lc h.lt O.size,A,n,c,ae,(O.cell h.lt (λh=>h)).trans aD,aU.on (Fr.ext O)⟩
 ):p:=h
theorem CT{p:Prop}(h:p:=by
 simp only[D.aJ,D.rep];constructor
 .rintro⟨x,y,rfl,rfl,h⟩;exact⟨y,rfl,h⟩
 .rintro⟨y,rfl,h⟩;exact⟨_,y,rfl,rfl,h⟩
 ):p:=h
theorem tM{p:Prop}(h:p:=by
 go_wp2;go_ret;exact⟨ret_bool (by rw[aZ.o]),O⟩
 ):p:=h
theorem xB{p:Prop}(h:p:=by
 go_wp2;go_roundw
 case rel=>exact⟨k+1,ab,by go_num,bX.o⟩
 case measure=>exact az
 ):p:=h
theorem Gu{p:Prop}(h:p:=by
 unfold eD at h;rw[bB,fi] at h;obtain⟨y,rfl,h⟩:=h;obtain⟨x,br,rfl,hx,a4⟩:=dy.1 h;obtain⟨A,n,c,rfl,hc,hs⟩:=jB.1 hx;rw[D.bo] at a4;obtain⟨A2,c2,rfl⟩:=fa.1 a4;exact⟨_,A,n,c,_,_,rfl,hx⟩
 ):p:=h
theorem xC{p:Prop}(h:p:=by
 clear bl cf;go_wp2;go_ret;refine⟨ret_bool ?_,O⟩;rw[aZ.o,i.o,bq.o];simp
 ):p:=h
theorem Gv{p:Prop}(h:p:=by
 rcases h with⟨m,hm,_,ae,aD⟩|⟨_,hp⟩
 .by_cases ba:0<m.size
  .obtain⟨l,a,hs⟩:=ae ba;rw[ak] at a;injection a with a;subst a;exact hs
  .rw[aD ba] at ak;cases ak
 .rw[hp] at ak;cases ak
 ):p:=h
theorem Gw{p:Prop}(h:p:=by
 obtain⟨cr,rfl,ae⟩:=a5.1 h;obtain⟨br,rfl,aD⟩:=a5.1 ae;obtain⟨aa,rfl,aU⟩:=a5.1 aD;obtain⟨A,n,c,cM,rfl,hc,hs,a1⟩:=aF.1 aU;rw[aK] at a1;subst a1;exact⟨A,n,c,rfl,hc,hs⟩
 ):p:=h
theorem Gx{p:Prop}(h:p:=by
 unfold ct;rw[bB,ch];constructor
 .rintro⟨y,rfl,h⟩;rw[fi] at h;obtain⟨br,rfl,h⟩:=h;rw[aK] at h;subst h;rfl
 .rintro rfl;exact⟨_,rfl,fi.2 ⟨_,rfl,aK.2 rfl⟩⟩
 ):p:=h
theorem rB{p:Prop}(h:p:=by
 go_wp2;go_ret;exact⟨ret_int (by rw[aZ.o]),O⟩
 ):p:=h
theorem Gy{p:Prop}(h:p:=by
 have aZ:=xu r1 cl.1 cl.2 f0 gL dq rg ro;clear r1 f0 gL dq rg ro al cF a7 cn cl b1 m T bP c0 cK cI;go_wp2;go_roundw
 case rel=>exact⟨k+1,A2,c2,ab,by go_num,aZ.o⟩
 case measure=>exact az
 ):p:=h
theorem Gz{p:Prop}(h:p:=by
 simp only[Lv,Atom.bytes,Lq,LD];unfold fq;simp only[g,aZ,H,LJ,if_false,k];rw[if_neg ab,if_neg ab];exact pR (ao _) (by simp) (by simp)
 ):p:=h
theorem CU{p:Prop}(h:p:=by
 have hle:=(Fr.aQ ar).size;clear hV ar;generalize aP.heap.size=df at *;exact key df V ⟨bm,aN,hle⟩
 ):p:=h
theorem GB{p:Prop}(h:p:=by
 have:b=.sg [41]:=by
  simp[dT] at O;exact O.symm
 subst this;refine⟨λh=>by simp[Atom.jF] at h,λs hs _ c hc=>?_⟩;injection hs with hs;subst hs;simp[Atom.head] at hc;subst hc;decide
 ):p:=h
theorem GC{p:Prop}(h:p:=by
 apply List.ext_getElem?
 intro j;rw[List.getElem?_map,List.getElem?_map];by_cases bd:i=j
 .subst bd;rw[List.getElem?_set_self (List.getElem?_eq_some_iff.1 J).1,J];rfl
 .rw[List.getElem?_set_ne bd]
 ):p:=h
theorem GD{p:Prop}(h:p:=by
 have ae:=e1.size;exact⟨λO=>by
  rcases cf _ O with h|h
  .exact(ax _ h).2.1 rfl
  .omega,λO=>by
  rcases cf _ O with h|h
  .exact(ax _ h).2.2 rfl
  .omega⟩
 ):p:=h
theorem Iy{p:Prop}(h:p:=by
 rw[mO];exact(bB.2.2.2.2.1.ai λb O=>J.block b O.2 (pF O.1 aZ.2.1.lt)).mono λb O=>⟨by have:=O.1;have:=aZ.2.1.lt;omega,by have:=O.2;have:=J.size;omega⟩
 ):p:=h
theorem xD{p:Prop}(h:p:=by
 exact kv.bad aZ.o (bN.below.trans (L.below.mono bN.below.size))
 ):p:=h
theorem Iz{p:Prop}(h:p:=by
 rw[mO];exact(bB.2.2.2.2.1.ai λb O=>J.block b O.2 (pF O.1 aZ.2.1.lt)).mono λb O=>⟨by have:=O.1;omega,by have:=O.2;have:=J.size;omega⟩
 ):p:=h
theorem xE{p:Prop}(h:p:=by
 rw[aK] at aU;subst aU;exact⟨A,n,c,rfl,hc,hs⟩
 ):p:=h
theorem GF{p:Prop}(h:p:=by
 have aR:=ah bw bO;clear hX bw bO o1 aa;go_wp2_with(fail);go_roundw
 case rel=>exact⟨k+1,by go_num,ab,aR.1,aR.2⟩
 case measure=>exact az
 ):p:=h
theorem xF{p:Prop}(h:p:=by
 generalize wr.heap.size=bF;intro aE;exact key aZ bF j _ aE
 ):p:=h
theorem GG{p:Prop}(h:p:=by
 rcases ak with⟨ae,_⟩|⟨ae,_⟩|⟨ae,_,aD⟩|⟨ae,_⟩|⟨ae,_⟩|⟨ae,_⟩
 .omega
 .omega
 .exact aD
 .omega
 .omega
 .omega
 ):p:=h
theorem GH{p:Prop}(h:p:=by
 have b0:=ad (wR (u:=u) (s:=s) λj bd=>a8.2 j (aC cr.2));go_wp2_with(fail);go_ret;exact⟨by rw[b0.o];rfl,aH.1.trans a8.1⟩
 ):p:=h
theorem GI{p:Prop}(h:p:=by
 refine⟨_,_,_,_,_,rfl,?_,bA.drew⟩;rw[bk.o];refine eu.2 ⟨none,0,0,rfl,Lb _,?_⟩;simp only[ak];exact Sl.bN _
 ):p:=h
theorem CV{p:Prop}(h:p:=by
 go_wp2;go_ret;exact⟨ret_int (by rw[aZ.o];rfl),LL.alloc _⟩
 ):p:=h
theorem CW{p:Prop}(h:p:=by
 exact⟨_,rfl,aF.2 ⟨A,n,c,[],rfl,hc,hs,aK.2 rfl⟩⟩
 ):p:=h
theorem GJ{p:Prop}(h:p:=by
 go_wp2_with(fail);go_roundw
 case rel=>exact⟨k+1,by go_num,ab,by rw[<-bB.o];exact bx.1,bx.2⟩
 case measure=>exact az
 ):p:=h
theorem zB{p:Prop}(h:p:=by
 intro hm;rcases hm with hm|hm|hm
 .have:=HA.lt;omega
 .have:=(HA.rows.one.lt hm).2;omega
 .have:=(HA.rows.two.lt hm).2;omega
 ):p:=h
theorem zC{p:Prop}(h:p:=by
 simp only[Lk] at O ⊢;rcases O with O|O|O
 .exact .inl O
 .exact .inr (.inl O)
 .exact .inr (.inr (.inr O))
 ):p:=h
theorem sw{p:Prop}(h:p:=by
 have:=av.2;simpa[rm,ry] using this
 ):p:=h
theorem zD{p:Prop}(h:p:=by
 rw[<-hX];exact⟨Q.below.setCell (p:=⟨wr.heap.size,0,none⟩) (Lb _) _,Q.blk.aD 0 _,by simpa using Q.lt⟩
 ):p:=h
theorem sx{p:Prop}(h:p:=by
 go_wp2;go_ret;exact⟨ret_bool aZ.symm,a7.o⟩
 ):p:=h
theorem Hb{p:Prop}(h:p:=by
 have b9:(hd.owner == 0)=true:=by simpa using bl
 clear bl;go_wp2;go_ret;exact⟨ret_bool (by rw[aZ.o,bq.o];rfl),O⟩
 ):p:=h
theorem zE{p:Prop}(h:p:=by
 unfold fQ;rw[bB];exact ch.2 ⟨_,rfl,aF.2 ⟨none,0,0,[],rfl,Lb _,Sl.bN _,aK.2 rfl⟩⟩
 ):p:=h
theorem zF{p:Prop}(h:p:=by
 rcases ak with⟨ae,_⟩|⟨ae,_⟩|⟨_,_,ae⟩|⟨ae,_⟩|⟨ae,_⟩|⟨ae,_⟩<;>first|exact ae|omega
 ):p:=h
theorem zG{p:Prop}(h:p:=by
 clear aH;conv=>arg 2;whnf
 go_wp2
 try refine x _ _ ?_
 unfold rj
 iterate 248 apply Exists.intro
 exact⟨aK.o,rfl⟩
 ):p:=h
theorem vv{p:Prop}(h:p:=by
 go_wp2;go_ret;exact⟨ret_int (by rw[bx.o]),Below.refl _ _⟩
 ):p:=h
theorem zH{p:Prop}(h:p:=by
 rw[D.bo] at a4;obtain⟨A2,c6,c2,rfl,_,_⟩:=aW.1 a4;exact⟨_,_,_,_,_,_,_,_,rfl,a4⟩
 ):p:=h
theorem zI{p:Prop}(h:p:=by
 rcases Nat.eq_zero_or_pos n2 with ae|ae
 .exact ae
 .obtain⟨b,o,aD,_⟩:=ht.2 ae;rw[h0] at aD;cases aD
 ):p:=h
theorem vw{p:Prop}(h:p:=by
 exact ik.mk' H.o (by rw[bN.o];exact ax) O b0.o
 ):p:=h
theorem vx{p:Prop}(h:p:=by
 have:=(List.getElem?_eq_some_iff.1 hm).1;simp at this;omega
 ):p:=h
theorem vy{p:Prop}(h:p:=by
 exact fS.mk' rfl ((Below.refl _ _).alloc (Lb _) _)
 ):p:=h
theorem zJ{p:Prop}(h:p:=by
 exact Fr.low (M:=λb=>b=S.heap.size+1+1) ((ae.mono λ_ h=>h.elim).trans ay) λk ai=>ab
 ):p:=h
theorem zK{p:Prop}(h:p:=by
 rcases H with H|H
 .rw[H] at O;exact .inl O
 .rw[H] at O;injection O with O;right;omega
 ):p:=h
theorem zL{p:Prop}(h:p:=by
 generalize (Value.agg (aq.val S))=Y;generalize (Value.slice A2 aA c2)=o;intro F;exact key bF o Y _ F
 ):p:=h
theorem zM{p:Prop}(h:p:=by
 obtain⟨br,rfl,h⟩:=h;rw[a5] at h;obtain⟨aa,rfl,h⟩:=h;rw[aK] at h;subst h;rfl
 ):p:=h
theorem zN{p:Prop}(h:p:=by
 rcases hm with hm|hm
 .rcases hp with hp|hp
  .omega
  .have:=(aG b hp).1;omega
 .omega
 ):p:=h
theorem zO{p:Prop}(h:p:=by
 cases j with
 | zero=>simp[oF] at bd;exact⟨rfl,bd.symm⟩
 | succ j=>simp[oF] at bd
 ):p:=h
theorem zP{p:Prop}(h:p:=by
 exact(lJ.cons (.cons (.cons (.app (.cons (.nl (l:=[]) λa h=>by simp at h)))))).2 a aW
 ):p:=h
theorem vz{p:Prop}(h:p:=by
 go_wp2;go_ret;exact⟨rfl,LL.alloc _⟩
 ):p:=h
theorem zQ{p:Prop}(h:p:=by
 simp only[VE.aZ,VE.numOf,VE.bk] at *;go_wp2;go_ret;exact⟨ret_str bY.o,a8.o⟩
 ):p:=h
theorem zR{p:Prop}(h:p:=by
 rintro e ac ⟨rfl,aY,hF⟩;exact⟨none,0,0,rfl,Lb _,aY,hF,Sl.bN _⟩
 ):p:=h
theorem zS{p:Prop}(h:p:=by
 by_cases z:j<k
 .exact aI.o j z
 .obtain rfl:j=k:=ab;exact aR.o
 ):p:=h
theorem zT{p:Prop}(h:p:=by
 have:=bc.2.2.1
 cases d with
 | zero=>exact this.elim
 | succ cE=>exact⟨cE,rfl⟩
 ):p:=h
theorem zU{p:Prop}(h:p:=by
 have ae:=T.2.2;have aD:=bx.2;simp only[Lh,Ly,aD];exact ae
 ):p:=h
theorem zV{p:Prop}(h:p:=by
 conv=>lhs;rw[<-c9 cg]
 simp only[ByteArray.append_assoc,af];simp
 ):p:=h
theorem zW{p:Prop}(h:p:=by
 exact w1 (q:=⟨bM,b2,bo,TA,tn,tc,HA,hn,hc⟩) ch.2.2 l.o bc.o
 ):p:=h
theorem zX{p:Prop}(h:p:=by
 clear hx co H;go_wp2_with(fail);go_ret;rw[b0.o];exact eO.nil (Fr.of aZ.2.1)
 ):p:=h
theorem zY{p:Prop}(h:p:=by
 unfold jx;rw[List.range_succ,Li,List.filter_append];simp[h]
 ):p:=h
theorem zZ{p:Prop}(h:p:=by
 simp only[ak.eH,ax.decl,F0,LC];cases d<;>exact Iff.rfl
 ):p:=h
theorem z0{p:Prop}(h:p:=by
 go_wp2_with(fail);go_ret;exact⟨by rw[<-b0.o];rfl,aH.1.trans a8.2⟩
 ):p:=h
theorem z1{p:Prop}(h:p:=by
 intro x hx;obtain⟨j,bd⟩:=List.getElem?_of_mem hx;simpa using h j x bd
 ):p:=h
theorem z2{p:Prop}(h:p:=by
 exact lv _ _ _ _ _ (by rw[mN];omega) (by rw[mN];omega)
 ):p:=h
theorem z3{p:Prop}(h:p:=by
 clear hm;go_wp2;go_ret;exact⟨ret_int (by rw[aZ.o];rfl),aE.alloc _⟩
 ):p:=h
theorem Hc{p:Prop}(h:p:=by
 unfold free;rw[decide_eq_true ⟨hm,h0⟩,f,P,bx,Bool.true_and]
 ):p:=h
theorem z4{p:Prop}(h:p:=by
 rw[rK,<-List.append_assoc];exact Lk.2 (.inl this)
 ):p:=h
theorem z5{p:Prop}(h:p:=by
 simp only[c8,count_nil,bg,cz,ep];omega
 ):p:=h
theorem z6{p:Prop}(h:p:=by
 rw[a1 aZ.2.2.2.1,Li,Li];exact bY.1
 ):p:=h
theorem sy{p:Prop}(h:p:=by
 obtain⟨a3,am,aJ⟩:=(aH.2.2.1.aj bm).two;clear hV bm bd c8 cv;have dh:w.heap.size+2<V.heap.size:=ab;go_wp2_with(fail);refine(Fy P s t fs f ⟨bM,b2,bo,TA,tn,tc,HA,hn,hc⟩ V (ch.2.2.GR l.o (aH.1.trans b4.o)) (λb O=>Lc (l.o b O) (aH.1.trans b4.o).size) i.sm cY bU.2.1).mono ?_;rintro e b3 ⟨⟨de,cH,bG,cD,ai,aV,bx,bT,a9⟩,O,lb,lc,hx,a2,cZ,ci,dP,y,F1,F2,bs,rfl,bu,ds⟩;have ao:=ah bu ds;have cC:=bu.size;clear bu ds a3 am aJ;dsimp only[SV.val];go_upto_region 5 with(fail);generalize hU:World.alloc _ _=U;have ca:=bb hU;have cM:=aT hU;have da:=ao.2 U b3.heap.size ca cM (Lb _);have dr:=da.sY;have b8:=da.gl;have bv:=da.tl;have bS:=da.hl;simp only at dr b8 bv bS;subst dr;obtain⟨bt,k,flb,ac,J,c0,c1,c2,c3,aW⟩:=da.top;have dn:Ext V U:=ao.1.trans ca;have dN:=(da.lo lb (by simp)).1;have bq:=dq da dn b8 bv bS;have b7:t<(bT:Int):=by have:=bU.2.2.2.2;omega
 have dI:((fs.length:Nat):Int)<(lc:Int):=by have:=da.l.cap;omega
 have dJ:fs.length<=lc:=ab;obtain⟨e0,bk,a5⟩:=cM.two;clear hU ca cM da dn b8 bv bS ao;go_upto_region 8 with(fail);generalize hX:World.setCell _ _ _=X;have cK:RO P V.heap.size X {s with threads:=s.threads.set t.toNat (fs++[next f])} t.toNat fs (next f) b3.heap.size ⟨de,cH,bG,cD,ai,aV,some ⟨O,0,none⟩,bT,a9⟩ O lb lc hx a2 cZ ci dP y F1 F2 bs:=hX▸bq.1.pc (f.pc+1);have b1:=dj hX;have cP:Ext V X:=Fr.low (M:=λb=>b=lb) (Fr.trans (Fr.mono bq.2.1 λ_ h=>h.elim) b1) λb O=>ab;have cT:=b4.trans cP;have aR:=aL cK cP cT;have dF:=cP.size;clear hX b1 e0 bk a5 c0 c1 c2 c3 J flb ac bt k aW;obtain⟨bt,k,flb,ac,J,c0,c1,c2,c3,aW⟩:=cK.top;obtain⟨a0,ap,aj⟩:=(aH.2.1.aj cT).two;obtain⟨a3,am,aJ⟩:=(aH.2.2.1.aj cT).two;obtain⟨d0,af,aS⟩:=(b6.aj cP).two;obtain⟨e0,bk,a5⟩:=cK.o.two;have dM:=(cK.lo b3.heap.size (by simp))
 exact sC
 ):p:=h
theorem sD{p:Prop}(h:p:=by
 have i:=ad h;have bU:=dq bL br ck EG Hu;have dv:t<(hn:Int):=ab;have ch:=aL hu hs ct;obtain⟨l,dd⟩:=aM aY aG;clear h bL bv br ck EG Hu hu hs ct aY aG;dsimp only[UV.val,SV.val];go_enter func20,ntmps20;go_upto_region 1 with(fail);generalize be:World.alloc _ _=W;have aE:=nt be;have bW:=lL be;have bK:=jv be;have cg:=lM be;have aH:=ej aE bW bK cg (ch.1.on aE) (ch.2.1.on aE);have cE:=aE.size;have dm:=cg.lt;obtain⟨a0,ap,aj⟩:=bW.two;obtain⟨a3,am,aJ⟩:=bK.two;clear be aE bW bK cg;go_wp2_with(fail);refine(kW u s t f Q x W ⟨GA,gn,gc,MA,mn,mc,PA,pn,pc⟩ ⟨bM,b2,bo,TA,tn,tc,HA,hn,hc⟩ ⟨i.sm,i.ht,i.hp,i.hx,i.hF.proc,i.pc.1,i.il,i.kl,aH.2.2.2.2.1,aH.2.2.2.2.2⟩).mono ?_;rintro e aP ⟨⟨eo,en,es,EA,em,ec,QA,qm,qc,c5,j,cU,KA,cB,kc⟩,rfl,bD,aF⟩;have cv:=ah bD aF;clear a0 ap aj a3 am aJ bD aF;dsimp only[IV.val];go_upto_region 2 with(fail);generalize hV:World.alloc _ _=V;have bd:=bb hV;have c8:=aT hV;have bm:Ext W V:=cv.2.trans bd;have cW:=bm.size;have cF:=c8.lt;have dH:=cv.2.size;have b4:=ad bm;have dp:=ad (cv.1.on bd);have b6:=ad c8;exact sE
 ):p:=h
theorem l0{p:Prop}(h:p:=by
 intro p bl B eT bE ps V T ls N S L az aY QA cg qc bT bg au a8 bx on bp b8 bY dD aN br wr a6 cb eM dp np aK bQ eX c2 bK ch aM bu ce Q hQ0 hN K hK;intros
 obtain⟨s,wb,sA,b2,bo,sl,GA,gn,gc,MA,mn,mc,FA,fn,fc,M,F,ar⟩:=p;simp only at bY a6 cb eM;obtain⟨a0,ap,aj⟩:=bQ.1.blk.two;obtain⟨a3,am,aJ⟩:=bQ.2.1.two;obtain⟨d0,af,aS⟩:=bQ.2.2.two;conv=>arg 2;whnf
 conv at hK=>enter [a,w,1,2];whnf
 exact l1
 ):p:=h
theorem Hd{p:Prop}(h:p:=by
 refine qF ?_
 iterate 4 refine pf ?_
 refine aO rfl (λK hK=>?_);go_simp;refine(jP ⟨s,wb,sA,b2,bo,sl,GA,gn,gc,MA,mn,mc,FA,fn,fc,M,F,ar⟩ L bg au bd a8 wr.drew ((bQ.1.aj a6 LL.drew).wr aK.1) ((Sl.cS aK.2.2.2.2.1 (bQ.1.aj a6 LL.drew).fr).mono λb O=>⟨O.1,λh=>O.2 (.inl h)⟩) ab).mono ?_;rintro e aP ⟨x,cu,cr,cD,rfl,hx,aF,bX,h,he⟩;simp only at h he;have ag:Fr (λb=>b=s) wr aP:=Fr.aQ he;have ay:=bQ.2.2.on ag ab;have aZ:=gY (bQ.1.next a6 h ag) ay hx aF bX ag.size (bQ.2.1.on ag aw);refine ei hK (he) ?_;clear hK K;clear ay hx aF bX h he ag a0 ap aj a3 am aJ d0 af aS;refine aq rfl (λK hK=>?_);go_simp
 first
  | rw[j.2,show IntKind.i64.wrap ((i:Nat):Int)=((i:Nat):Int) from IntWalk.i64_in _ ab]
  | rw[j.2]
 refine(ch.2.2 L ab i 3 bg (T++decls ls) au bd a8 aY ps QA cg qc bT aP ab ab (aZ.1.wr aK.1) (Sl.cS aK.2.2.2.2.1 aZ.1.fr) ab (λk ai=>ch.2.1 k ab) (Sl.cS aK.2.2.1 aZ.1.fr) br).mono ?_;rintro e aV ⟨Z,bC,m,aE,bP,rfl,ac,b9,b6,U,I⟩;have u:¬(S.heap.size=s\/S.heap.size=wb):=ab;have l:=aZ.2.1.on I u;have be:=aZ.2.2.2.2.2.2.on I (λh=>by rcases h with h|h<;>(simp only at h;omega));have aQ:bC<=L:=ac.le;have bB:=gY (aZ.1.HF U I) l ac b9 b6 I be;clear ac b9 b6 U I be;obtain⟨d0,af,aS⟩:=l.two;clear l;refine eL hK ?_;clear hK K;refine aq rfl (λK hK=>?_);go_simp;refine eL hK ?_;clear hK K;refine pf ?_;refine aq rfl (λK hK=>?_);go_simp;refine eL hK ?_;clear hK K;refine pf ?_;refine aq rfl (λK hK=>?_);go_simp;refine eL hK ?_;clear hK K;refine aB ?_;generalize hX:World.setCell _ _ _=X;have J:Fr (λb=>b=S.heap.size) aV X:=hX▸((((((Fr.refl (λb=>b=S.heap.size) aV).setCell (.inl rfl) _).setCell (.inl rfl) _).setCell (.inl rfl) _).setCell (.inl rfl) _).setCell (.inl rfl) _).setCell (.inl rfl) _;exact z7
 ):p:=h
theorem vA{p:Prop}(h:p:=by
 have aZ:=ah (aH.2.2.2.1.aj bP.2.2) (aH.1.trans bP.2.2);have cy:=bP.2.2.size;obtain⟨bE,bg,bh⟩:=aZ.1.two;obtain⟨e0,bk,a5⟩:=bP.2.1.two;go_wp2_with(fail);generalize hX:World.setCell _ _ _=Z;obtain⟨bH,bn,bC⟩:=cm (w:=w) [.slice de cH bG,.slice cD ai aV,.slice (some ⟨O,0,none⟩) bT a9,.int .i64 s.fault] (by rfl) aZ.1 aZ.2 ab hX;have bc:=ah bn bC;clear hX bn bC bE bg bh e0 bk a5;obtain⟨bE,bg,bh⟩:=bH.two;refine LK (v:=.tuple #[.agg #[.slice de cH bG,.slice cD ai aV,.slice (some ⟨O,0,none⟩) bT a9,.int .i64 s.fault],.bool true]) (by simp[results,Tryz.results20,go_sem,bE]) rfl ?_;exact vB
 ):p:=h
theorem z9{p:Prop}(h:p:=by
 rintro e aP ⟨rfl,ar⟩;refine ei hK (ar) ?_;clear hK K;refine bh (v:=?_) rfl (by rfl) (λV=>?_) ?_;rotate_left
 .go_simp;exact dW
 try simp only[PU]
 refine bh (v:=?_) rfl (by rfl) (λV=>?_) ?_;rotate_left
 .go_simp;exact dW
 try simp only[PU]
 exact Aa
 ):p:=h
theorem Ab{p:Prop}(h:p:=by
 have bm:=bQ.2.2.lt;have R:∀b,wr.heap.size<=b->¬(b=s\/b=wb):=λb O h=>ab;have dh:S.heap.size<=aP.heap.size:=by have:=aZ.2.2.2.2.2.1;omega
 have bb:Sl X (fresh S X) cu cr (x.args.map bf):=(aZ.2.2.2.2.1.ai λb O=>(J.block b (pF O.2 bB.2.2.2.2.2.1.size) (by have:=O.1;have:wr.drew.heap.size=wr.heap.size:=rfl;omega)).trans (bB.2.2.2.2.2.1.block b O.2 (R b O.1))).mono λb O=>⟨by have:=O.1;have:wr.drew.heap.size=wr.heap.size:=rfl;omega,by have:=O.2;have:=bB.2.2.2.2.2.1.size;have:=J.size;omega⟩
 have cE:Sl X (fresh S X) m aE (cY (.eH Z)):=by
  exact Iz
 have ba:Sl X (λb=>S.heap.size<b/\b<X.heap.size) cu cr (x.args.map bf):=(aZ.2.2.2.2.1.ai λb O=>(J.block b (pF O.2 bB.2.2.2.2.2.1.size) (by have:=O.1;have:wr.drew.heap.size=wr.heap.size:=rfl;omega)).trans (bB.2.2.2.2.2.1.block b O.2 (R b O.1))).mono λb O=>⟨by have:=O.1;have:wr.drew.heap.size=wr.heap.size:=rfl;omega,by have:=O.2;have:=bB.2.2.2.2.2.1.size;have:=J.size;omega⟩
 have al:Sl X (λb=>S.heap.size<b/\b<X.heap.size) m aE (cY (.eH Z)):=by
  exact Iy
 have aL:=ah ba al;clear ba al;have H:=bB.1.fresh aK.1 J λb O=>ab;have a4:=bB.2.2.2.2.2.2.on J ab;have aR:=dq H bw a4 bb cE;clear hX d0 af aS J bw H a4 bb cE;exact Ac
 ):p:=h
theorem vC{p:Prop}(h:p:=by
 go_enter func107,ntmps107;go_upto_region 8 with(fail);generalize be:World.alloc _ _=W;have aE:=im be;have aW:=fU be;have b7:=fL be;have aK:LR (zz w W g A n c T k deep (sf 0 ⟨#[]⟩ ⟨#[]⟩)):=ad ⟨H.aj aE,aE.mono λ_ h=>h.elim,aW,b7⟩;clear be aE aW b7;go_wp2_with(fail);refine(show Calls prog 62 #[.pointer (some ⟨g,0,none⟩),.string ⟨#[118,97,114]⟩] W _ from cq [118,97,114] g A n c T k deep W aK.ps false (by first|exact bU.1|exact e6 bU.1 (by decide)) (λh=>by first|omega|cases h)).mono ?_;rintro e aP ⟨rfl,aY,hF⟩;have H1:=ad (aK.on b8 (show bu aP g A n c T (k) deep from by simpa using aY) hF);clear aY hF;clear aK;go_wp2_with(fail);exact vD
 ):p:=h
theorem sF{p:Prop}(h:p:=by
 obtain⟨bL,cY,bv,fs,br,cn⟩:=h.th;have hs:=ct.ok aY;obtain⟨GA,gn,gc,MA,mn,mc,PA,pn,pc⟩:=p;obtain⟨bM,b2,bo,TA,tn,tc,HA,hn,hc⟩:=q;have Hu:hn=s.threads.length:=by have:=hs.at_.h.1;simpa using this.symm
 have ck:b2=s.globals.length:=by have:=hs.at_.g.1;simpa using this.symm
 have EG:tn=s.table.length:=by have:=hs.at_.t.1;simpa using this.symm
 have c9:hn<=1000:=by have:=h.sm.h;omega
 have cX:=h.pc;exact sG
 ):p:=h
theorem kx{p:Prop}(h:p:=by
 obtain⟨GA,gn,gc,MA,mn,mc,PA,pn,pc⟩:=p;obtain⟨bM,b2,bo,TA,tn,tc,HA,hn,hc⟩:=q;obtain⟨hlen,cP,E⟩:=h.len;have cr:=ah h hlen;clear h hlen;simp only at cP E;dsimp only[UV.val,SV.val];exact ky
 ):p:=h
theorem Ad{p:Prop}(h:p:=by
 rintro r aP ⟨rfl,O⟩;by_cases hm:0<=bw X e
 case neg=>
  have aZ:=ad (show free X T e th=false from qf ab);have aR:bw X e<0:=ab;clear hm;exact tM
 obtain⟨k,m,hd,rfl,ai,d,f,P,ct⟩:=hT.at_ hm;rw[P];have aW:k<n2:=by have:=ht.1;omega
 have eM:m<n:=by have:=h.1;omega
 by_cases h0:0<=th
 case neg=>
  have aZ:=ad (show free X T k th=false from qf ab);have j:th<0:=ab;clear h0 d f P;exact tM
 obtain⟨b,o,G,rfl,al,hx,c0,c1⟩:=(ht.gf O).hold aW;obtain rfl:hd=G:=by rw[d] at hx;injection hx
 obtain⟨M,av,mx,rfl,l,g,d0,d1,d2⟩:=(h.gf O).Jb eM;have bE:=hT.bound hd (Le d);have bx:Fz X m=mx.re:=by unfold Fz;rw[Lw,g];rfl
 have H:free X T k th=(hd.owner == 0 || (hd.owner == th+1 && mx.re)):=by
  exact Hc
 have aZ:=ad H;clear H hx g d f P hm bx;by_cases bl:hd.owner=0
 .have bq:=ad bl;exact Hb
 have b9:(hd.owner == 0)=false:=by simpa using bl
 exact Ae
 ):p:=h
theorem Af{p:Prop}(h:p:=by
 refine uP (λb=>b=S.heap.size+1) [14] (.free 0 (.free 1 (.free 2 (.free 6 (.free 7 (.free 8 (.held 9 (.pick [3,10,13] (λi=>bif i == 3 then .held 4 (.free 5 (.pick [10,13] (λi=>bif i == 10 then .free 11 (.free 12 (.pick [13] (λ_=>.pick [14] (λ_=>.stop)))) else .pick [10] (λ_=>.free 11 (.free 12 (.pick [14] (λ_=>.stop))))))) else bif i == 10 then .free 11 (.pick [3,13] (λi=>bif i == 3 then .held 4 (.free 5 (.free 12 (.pick [13] (λ_=>.pick [14] (λ_=>.stop))))) else .pick [3] (λ_=>.held 4 (.free 5 (.free 12 (.pick [14] (λ_=>.stop))))))) else .pick [3,10] (λi=>bif i == 3 then .held 4 (.free 5 (.pick [10] (λ_=>.free 11 (.free 12 (.pick [14] (λ_=>.stop)))))) else .free 11 (.pick [3] (λ_=>.held 4 (.free 5 (.free 12 (.pick [14] (λ_=>.stop)))))))))))))))) ?_
 iterate 6 refine tf ?_
 refine oJ ?_;clear a0 ap aj;exact Ag
 ):p:=h
theorem kz{p:Prop}(h:p:=by
 go_upto_region 1 with(fail);generalize be:World.alloc _ _=W;have aE:=im be;have bK:=fU be;have aY:=fL be;have aH:=bG aE bK aY (cr.1.on aE);have cE:=aY.lt;exact kA
 ):p:=h
theorem jf{p:Prop}(h:p:=by
 obtain⟨GA,gn,gc,MA,mn,mc,PA,pn,pc⟩:=p;obtain⟨bM,b2,bo,TA,tn,tc,HA,hn,hc⟩:=q;exact jg
 ):p:=h
theorem l2{p:Prop}(h:p:=by
 refine eL hK ?_;clear hK K;refine pf ?_;refine aq rfl (λK hK=>?_);go_simp;refine eL hK ?_;clear hK K;refine aB ?_;exact jU
 ):p:=h
theorem fV{p:Prop}(h:p:=by
 refine aq rfl (λK hK=>?_);go_simp;refine eL hK ?_;clear hK K;refine aB ?_;exact fW
 ):p:=h
theorem pz{p:Prop}(h:p:=by
 obtain⟨I,fV,aA,e,cq,hs⟩:=aW.1 aQ;simp only[List.cons.injEq,Value.int.injEq,Value.string.injEq,Value.slice.injEq,and_true,true_and] at e;obtain⟨rfl,rfl,rfl,rfl,rfl,rfl⟩:=e;exact pA
 ):p:=h
theorem Ah{p:Prop}(h:p:=by
 have aE:Ext w (w.alloc (.cells #[.bool false,.int .i64 i,.slice (some ⟨b,o,none⟩) 1 pc] 58)):=LL.alloc _;have d:an (w.alloc (.cells #[.bool false,.int .i64 i,.slice (some ⟨b,o,none⟩) 1 pc] 58)) w.heap.size 58 #[.bool false,.int .i64 i,.slice (some ⟨b,o,none⟩) 1 pc]:=LM;obtain⟨au,F,cW,hm,aO,e0,e1,e2,e3⟩:=h;obtain⟨hp,bp,fV,rfl,b2,aR,f0,f1,f2⟩:=F.Jw cW;have P:fV=m:=by rw[hm] at aR;injection aR with h;exact h.symm
 subst P;exact Ai
 ):p:=h
theorem Aj{p:Prop}(h:p:=by
 have hl:(aI u s).length=hn:=by rw[dC];exact cr.2
 have bN:=ah hl (j3 cr.1.hS);obtain⟨a0,ap,aj⟩:=bK.two;obtain⟨a3,am,aJ⟩:=aY.two;clear be aE bK aY hl;go_wp2_with(fail);refine(sN u s N W ⟨GA,gn,gc,MA,mn,mc,PA,pn,pc⟩ ⟨bM,b2,bo,TA,tn,tc,HA,hn,hc⟩ aH.2.2.2).mono ?_;rintro e aP ⟨A,c,rfl,_,bZ,aF⟩;dsimp only at bZ ⊢;have H1:=ah bZ (aH.1.trans aF);generalize aI u s=l at *;clear a0 ap aj a3 am aJ bZ aF;exact Ak
 ):p:=h
theorem vE{p:Prop}(h:p:=by
 have d0:=Z 0 _ rfl;have d1:=Z 1 _ rfl;have d2:=Z 2 _ rfl;have d3:=Z 3 _ rfl;have d4:=Z 4 _ rfl;have d5:=Z 5 _ rfl;have d6:=Z 6 _ rfl;have d7:=Z 7 _ rfl;have d8:=Z 8 _ rfl;have d9:=Z 9 _ rfl;have d10:=Z 10 _ rfl;simp only[Ll] at d0;exact vF
 ):p:=h
theorem Al{p:Prop}(h:p:=by
 go_upto_region 1 with(fail);generalize be:World.alloc _ _=W;have aE:=nt be;have bK:=lL be;have aY:=jv be;have aQ:=lM be;have aH:=gY aE bK aY aQ (hu.on aE) (hs.on aE) (D.on br (Fr.ext aE));have x:=hT.on aE;obtain⟨a0,ap,aj⟩:=bK.two;obtain⟨a3,am,aJ⟩:=aY.two;obtain⟨d0,af,aS⟩:=aQ.two;have L:=ad x;clear be aE bK aY aQ x hT hu hs br ac hS hU ht hp hx hF y o;go_wp2_with(fail);exact Am
 ):p:=h
theorem An{p:Prop}(h:p:=by
 clear hX d0 af aS HA;go_wp2_with(fail);refine(show Calls prog 106 #[.pointer (some ⟨g,0,none⟩),.string ⟨#[59]⟩] X _ from jb [59] g A n c T (k+1+1) deep X aR.ps bU.2.2.2.2 ab).mono ?_;rintro e bn ⟨rfl,aY,hF⟩;have bc:=ad (aR.on b8 aY hF);clear aY hF aR;obtain⟨d0,af,aS⟩:=bc.s.two;obtain⟨bE,bg,bh⟩:=bc.r.two;simp only[sf] at d0;go_wp2_with(fail);generalize hX:World.setCell _ _ _=V;exact Ao
 ):p:=h
theorem Ap{p:Prop}(h:p:=by
 clear ba;have cV:=bw.size;go_wp2_with(fail);refine(pg P s ⟨bM,b2,bo,TA,tn,tc,HA,hn,hc⟩ z cz (ch.2.2.GR l.o (aH.1.trans bw.o)) (λb O=>Lc (l.o b O) (aH.1.trans bw.o).size)).mono ?_;rintro e b5 ⟨⟨df,bI,bX,bY,bN,bB,bQ,cl,bR⟩,rfl,cc,a4⟩;have f2:=a4.size;have co:=ad cc;have aZ:=ah (aH.2.2.2.1.aj (bw.trans a4)) ((aH.1.trans bw.o).trans a4);exact Aq
 ):p:=h
theorem Ar{p:Prop}(h:p:=by
 obtain⟨n,nm,b,o,c,bs,Z,bu,E,cu,cr,br,aa,T,O,hx,a4,e0,e1,e2,e3,cF,cN,bH,e7⟩:=h.rep;injection T with h0 T;injection T with ae T;injection T with aD T;injection T with aU T;subst h0 ae aD aU;clear T;have aG:=h.ok.1;have ax:lY w G L ng nl g l x [bs,Z,bu,E]:=⟨h.gs,h.ls,h.ok.2.1,hx⟩
 have j:lY w G L ng nl g l y [cu,cr,br,aa]:=⟨h.gs,h.ls,h.ok.2.2,a4⟩
 exact As
 ):p:=h
theorem vG{p:Prop}(h:p:=by
 have aK:=h.g;have hm:=h.m;have J:=h.f;have dr:p.globals.length=gn:=by rw[<-aK.1,Lf]
 have lm:p.ae.length=mn:=by rw[<-hm.1,Lf]
 have lf:p.funcs.length=fn:=by rw[<-J.1,Lf]
 exact vH
 ):p:=h
theorem He{p:Prop}(h:p:=by
 generalize b7:World.setCell _ _ _=Y;obtain⟨bz,bA,bj⟩:=dR (M:=λb=>b=s) [.int .i64 x.aZ,.int .i64 x.numOf,.string x.bk,.slice cu cr cD] (by rfl) bx.o bt.2 (Lb _) b7;obtain⟨bE,bg,bh⟩:=bz.two;exact At
 ):p:=h
theorem Au{p:Prop}(h:p:=by
 refine(show Calls prog 62 #[.pointer (some ⟨g,0,none⟩),.string ⟨#[103,111]⟩] aP _ from cq [103,111] g A n c T k deep aP H1.ps false (by first|exact bU.1|exact e6 bU.1 (by decide)) (λh=>by first|omega|cases h)).mono ?_;rintro e aV ⟨rfl,aY,hF⟩;have bt:=ad (H1.on b8 (show bu aV g A n c T (k) deep from by simpa using aY) hF);clear aY hF;clear H1;go_wp2_with(fail);exact Av
 ):p:=h
theorem Aw{p:Prop}(h:p:=by
 rintro e aP ⟨rfl,aY,hF⟩;have H1:=aL aY (Fr.trans (aH.2.1.mono λ_ h=>h.elim) hF) (aH.2.2.on hF ab);have R:w.heap.size<aP.heap.size:=H1.2.2.lt;clear aY hF;go_upto_region 2 with(fail);generalize hX:World.alloc _ _=X;have aE:=bb hX;have cg:=aT hX;have aR:=bG (H1.1.aj aE) (H1.2.1.trans (aE.mono λ_ h=>h.elim)) (H1.2.2.aj aE) cg;clear hX aE cg H1 aH;go_wp2_with(fail);exact Ax
 ):p:=h
theorem Ay{p:Prop}(h:p:=by
 have a8:=ad (show ev g l (.bin op x y)=if (ev g l x).2≠0 then (0,(ev g l x).2) else if op=16/\(ev g l x).1=0 then (0,0) else if op=17/\(ev g l x).1≠0 then (1,0) else if (ev g l y).2≠0 then (0,(ev g l y).2) else if op=16\/op=17 then (ff ((ev g l y).1 != 0),0) else arith op (ev g l x).1 (ev g l y).1 from rfl);generalize ev g l x=r1 at *;obtain⟨v1,f1⟩:=r1;exact Az
 ):p:=h
theorem hk{p:Prop}(h:p:=by
 refine ao ?_;refine cj rfl (λK hK=>?_) rfl;go_simp;refine eL hK ?_;clear hK K;exact gA
 ):p:=h
theorem AA{p:Prop}(h:p:=by
 refine uP (λ_=>False) [6,11] (.free 0 (.free 1 (.free 2 (.held 3 (.free 4 (.held 5 (.pick [6,10] (λi=>bif i == 6 then .free 7 (.free 8 (.free 9 (.pick [10] (λ_=>.pick [11] (λ_=>.free 12 (.stop)))))) else .pick [6] (λ_=>.free 7 (.free 8 (.free 9 (.pick [11] (λ_=>.free 12 (.stop)))))))))))))) ?_
 iterate 3 refine tf ?_
 refine th ?_;refine tf ?_;refine th ?_;exact AB
 ):p:=h
theorem AD{p:Prop}(h:p:=by
 have k:=λba=>Dd (s:=s) (nl:=Q.locals) (nk:=f.aw.length) aR.1 aR.2.2.1 (Int.le_refl _) aR.2.2.2.2.2 j ba;have ar:=yC (u:=u) (s:=s) (f:=f) j;have m:=pV (u:=u) (s:=s) (f:=f) j;generalize cO u s f pl=R at *;obtain⟨v,z⟩:=R;simp only at k ar m;have bB:=aL k ar m;exact AE
 ):p:=h
theorem AF{p:Prop}(h:p:=by
 go_upto_region 1 with(fail);generalize be:World.alloc _ _=W;have aE:=bb be;have aN:an W w.heap.size 56 #[.int .i64 0,.int .i64 0,.string ⟨#[]⟩,.slice none 0 0]:=be▸an.hY _ _ _ rfl;have aH:=bG (H.1.aj aE) (H.2.aj aE) (aE.mono (M':=λb=>b=s) λ_ h=>h.elim) aN;obtain⟨a0,ap,aj⟩:=aH.1.blk.two;clear be aE aN H;exact AG
 ):p:=h
theorem vI{p:Prop}(h:p:=by
 obtain⟨cK,c9,cT,rfl,cF,cw⟩:=aW.1 bS;have c0:=Z 0 _ rfl;have c1:=Z 1 _ rfl;have c2:=Z 2 _ rfl;have c3:=Z 3 _ rfl;simp only[Ll] at c0;have aX:b<wr.heap.size:=O;exact vJ
 ):p:=h
theorem pB{p:Prop}(h:p:=by
 try refine hN _ _ ?_
 unfold lZ;refine⟨au,bd,a8,bx,on,bp,?_⟩
 iterate 240 apply Exists.intro
 refine⟨?_,rfl⟩;exact pC
 ):p:=h
theorem AH{p:Prop}(h:p:=by
 try simp only[PU]
 refine dm rfl (by rfl) ?_
 try simp only[PU]
 refine dm rfl (by rfl) ?_
 try simp only[PU]
 refine dm rfl (by rfl) ?_
 try simp only[PU]
 refine ia rfl (by rfl) ?_
 try simp only[PU]
 refine dm rfl (by rfl) ?_
 try simp only[PU]
 refine ia rfl (by rfl) ?_
 try simp only[PU]
 exact AI
 ):p:=h
theorem AJ{p:Prop}(h:p:=by
 generalize hV:World.alloc _ _=V;have L:=bb hV;have bs:=ad (a8.trans L);have G:=ad (bx.aj L);have hC:=aT hV;have bQ:=ad hC;have gH:=ad (cq.on (Fr.ext L));have ds:=ad (bE.on (Fr.ext L));clear hV a0 ap aj c0 c1 c2 aX a8 bx L cq bE;obtain⟨a0,ap,aj⟩:=hC.two;clear hC;exact AK
 ):p:=h
theorem AL{p:Prop}(h:p:=by
 obtain⟨n,nm,b,o,c,bs,Z,bu,E,T,O,hx,e0,e1,e2,e3⟩:=h.rep;injection T with h0 T;injection T with ae T;injection T with aD T;injection T with aU T;subst h0 ae aD aU;clear T;have aG:=h.ok.1;have ax:lY w G L ng nl g l x [bs,Z,bu,E]:=⟨h.gs,h.ls,h.ok.2,hx⟩
 exact AM
 ):p:=h
theorem vK{p:Prop}(h:p:=by
 unfold eD at h;rw[bB,fi] at h;obtain⟨y,rfl,h⟩:=h;obtain⟨x,br,rfl,hx,a4⟩:=dy.1 h;unfold fQ at hx;rw[bB,ch] at hx;obtain⟨z,rfl,hx⟩:=hx;exact vL
 ):p:=h
theorem AN{p:Prop}(h:p:=by
 have cE:=bi 0 _ rfl;simp only[Ll] at cE;have cd:=bi 1 _ rfl;have bJ:=bi 2 _ rfl;have aZ:=bi 3 _ rfl;have H:=bi 4 _ rfl;have a7:=bi 5 _ rfl;have cn:=bi 6 _ rfl;have cH:=bi 7 _ rfl;have cJ:=bi 8 _ rfl;have cN:=bi 9 _ rfl;have cj:=bi 10 _ rfl;have cq:=bi 11 _ rfl;exact AO
 ):p:=h
theorem sH{p:Prop}(h:p:=by
 have cP:gn<=16:=by have:=hp.qv;omega
 have cl:mn<=12:=by have:=hp.yY;omega
 have dA:fn<=16:=by have:=hp.Fl;omega
 exact sI
 ):p:=h
theorem AP{p:Prop}(h:p:=by
 obtain⟨hM,J,hG⟩:=h.own hX;obtain⟨GA,gn,gc,MA,mn,mc,FA,fn,fc,aN,cd,bJ,aZ,H⟩:=h.blk;refine⟨⟨⟨GA,gn,gc,MA,mn,mc,FA,fn,fc,?_,cd,bJ,aZ.cM hM,H.cM hM⟩,⟨h.base.1,Ls h.base.2 hM.fr.size⟩,⟨h.names.1,h.names.2.cM hM⟩,hG⟩,hM⟩;exact AQ
 ):p:=h
theorem AR{p:Prop}(h:p:=by
 have bX:=ad (show ev g l (.bin op x y)=if (ev g l y).2≠0 then (0,(ev g l y).2) else if op=16\/op=17 then (ff ((ev g l y).1 != 0),0) else arith op v1 (ev g l y).1 by rw[a8.o];simp only[a1.o,ne_eq,not_true_eq_false,if_false];rw[if_neg aW,if_neg bl]);exact AS
 ):p:=h
theorem AT{p:Prop}(h:p:=by
 have av:(0:Int)<(d:Int):=ab;obtain⟨i,a5⟩:∃i,d=i+1:=⟨d - 1,ab⟩
 have a1:(d:Int) - 1=((i:Nat):Int):=ab;have bt:i<=1:=ab;have j:=ah a5 a1;clear a5 a1;have cy:¬wb=s:=ab;have aw:¬bl=s:=ab;exact AU
 ):p:=h
theorem AV{p:Prop}(h:p:=by
 have bc:=ad bn;clear hX bn bC bE bg bh a3 am aJ;obtain⟨bE,bg,bh⟩:=bH.two;refine LK (v:=.tuple #[.agg #[.slice bM b2 bo,.slice TA tn tc,.slice HA hn hc,.int .i64 s.fault],.bool false]) (by simp[results,Tryz.results20,go_sem,bE]) rfl ?_;exact AW
 ):p:=h
theorem pD{p:Prop}(h:p:=by
 go_upto_region 1 with(fail);generalize be:World.alloc _ _=W;have aE:=im be;have aN:=fU be;have cg:=fL be;exact pE
 ):p:=h
theorem vM{p:Prop}(h:p:=by
 have a:a2.length=fs.length*4:=by rw[D.g8 _ _ h.fr,D.gN (z:=4) (λd hd=>by obtain⟨x,_,rfl⟩:=Lz.1 hd;rfl),Lf]
 exact vN
 ):p:=h
theorem AX{p:Prop}(h:p:=by
 obtain⟨O,bl,b5,cG,n,fc,IA,i,ic,S,l,lc,e,hT⟩:=hs.at_.top ac ht;simp only at e;subst e;obtain⟨hF,_,_⟩:=hS.top ht;have y:=hF.wx hp;have o:cI (bj u) Q.locals f.aw.length pl:=by rw[y];exact hx
 rw[jV ht];exact AY
 ):p:=h
theorem AZ{p:Prop}(h:p:=by
 have aK:S.grownBy ac (Value.slice A n c).ownBlock:=⟨aZ.os,aZ.tape,aZ.output,by have:=aZ.size;simp at this;omega,λk ai a6=>(aZ.block k (by simp;omega) a6).trans (Below.heap_alloc S _ k ai)⟩
 obtain⟨I,aA,rfl,hc,_⟩:=bx bJ;exact A0
 ):p:=h
theorem vO{p:Prop}(h:p:=by
 refine fj ?_;refine ao ?_;refine cj rfl (λK hK=>?_) rfl;go_simp;generalize hV:World.alloc _ _=V;have aN:=aT hV;have bm:=bb hV;clear hV;exact vP
 ):p:=h
theorem A1{p:Prop}(h:p:=by
 go_upto_region 1 with(fail);generalize be:World.alloc _ _=W;have aE:=im be;have bK:=fU be;have aY:=fL be;have aH:=bG aE bK aY (cr.on aE);obtain⟨a0,ap,aj⟩:=bK.two;obtain⟨a3,am,aJ⟩:=aY.two;clear be aE bK aY;exact A3
 ):p:=h
theorem A4{p:Prop}(h:p:=by
 obtain⟨O,bl,b5,cG,n,fc,IA,i,ic,S,l,lc,e,hT⟩:=hs.at_.top ac ht;simp only at e;subst e;obtain⟨pb,gN,aa,co,b1,bT,v,e,eM,gI,cX,bI,cZ,bD,aI⟩:=hu.at_.code hp hx p0 cw;simp only at e;subst e;simp only at gI;exact A5
 ):p:=h
theorem A6{p:Prop}(h:p:=by
 have d0:=(f.cell (p:=⟨b,o,none⟩) O).trans e0;have d1:=(f.cell (p:=⟨b,o+1,none⟩) O).trans e1;have d2:=(f.cell (p:=⟨b,o+2,none⟩) O).trans e2;have d3:=(f.cell (p:=⟨b,o+3,none⟩) O).trans e3;exact A7
 ):p:=h
theorem A8{p:Prop}(h:p:=by
 go_wp2;refine eU (λ_=>False) [(0,3),(1,3),(2,3),(3,3),(4,0),(8,3),(9,0),(10,3),(11,3),(14,3),(5,1),(6,3),(7,3),(12,2),(13,3),(15,3),(16,3),(17,3)] ?_
 iterate 2 refine pf ?_
 refine bh (v:=?_) rfl (by rfl) (λV=>?_) ?_;rotate_left
 .go_simp;exact dW
 try simp only[PU]
 refine pf ?_;refine ph ?_;refine pf ?_;refine ph ?_;refine pf ?_;refine bh (v:=?_) rfl (by rfl) (λV=>?_) ?_;rotate_left
 .go_simp;exact dW
 try simp only[PU]
 refine pf ?_;refine aO rfl (λK hK=>?_);go_simp;refine(aR.o _ _ _ _ _ _ _ (D.on aW.o (Fr.ext LL.drew)) f.o).mono ?_;rintro e aP ⟨rfl,ar⟩;refine ei hK (ar) ?_;clear hK K;refine bh (v:=?_) rfl (by rfl) (λV=>?_) ?_;rotate_left
 .go_simp;exact dW
 try simp only[PU]
 refine bh (v:=?_) rfl (by rfl) (λV=>?_) ?_;rotate_left
 .go_simp;exact dW
 try simp only[PU]
 refine aq rfl (λK hK=>?_);go_simp;rw[q.o];refine((show hg th from aL.th) (t+1) A2 n2 c2 _ R.o (aa.on (Fr.ext (Fr.aQ ar))) H.o).mono ?_;rintro e aV ⟨rfl,bU⟩;refine eL hK ?_;clear hK K;refine bh (v:=?_) rfl (by rfl) (λV=>?_) ?_;rotate_left
 .go_simp;exact dW
 try simp only[PU]
 refine bh (v:=?_) rfl (by rfl) (λV=>?_) ?_;rotate_left
 .go_simp;exact dW
 try simp only[PU]
 refine bh (v:=?_) rfl (by rfl) (λV=>?_) ?_;rotate_left
 .go_simp;exact dW
 try simp only[PU]
 refine pf ?_;refine aB ?_;have bs:=ad ((Fr.aQ ar).trans bU);obtain⟨v0,aC⟩:=Fr.rz bs.o;clear ar bU;exact xw
 ):p:=h
theorem A9{p:Prop}(h:p:=by
 rintro e aP ⟨rfl,ar⟩;refine ei hK (ar) ?_;clear hK K;refine bh (v:=?_) rfl (by rfl) (λV=>?_) ?_;rotate_left
 .go_simp;exact dW
 try simp only[PU]
 refine bh (v:=?_) rfl (by rfl) (λV=>?_) ?_;rotate_left
 .go_simp;exact dW
 try simp only[PU]
 exact Bj
 ):p:=h
theorem Ba{p:Prop}(h:p:=by
 go_wp2_with(fail);generalize hX:World.setCell _ _ _=X;obtain⟨bw,bq,bO⟩:=cm (w:=w) [.int .i64 0,.int .i64 0,.slice none 0 0,.slice none 0 0] (by rfl) a8.2 a8.1 ab hX;have aR:=ad bq;clear hX bq bO a0 ap aj bE bg bh aI;exact Ix
 ):p:=h
theorem Bb{p:Prop}(h:p:=by
 obtain⟨bE,bg,bh⟩:=bw.two;refine LK (v:=.tuple #[.agg #[.int .i64 0,.int .i64 0,.slice none 0 0,.slice none 0 0],.bool false]) (by simp[results,Tryz.results55,go_sem,bE]) rfl ?_;exact⟨rfl,aR.o⟩
 ):p:=h
theorem Bc{p:Prop}(h:p:=by
 rw[b0.o];exact e5 (B:=V.heap.size) bP.1 bc.2 (λb O=>⟨λhl=>by have:=l.o b hl;omega,ab⟩) (λb O=>by have:=l.o b O;omega) ab bc.1 (by rw[lA bU.2.1])
 ):p:=h
theorem Bd{p:Prop}(h:p:=by
 refine eU (λb=>b=s) [(0,3),(1,3),(3,3),(4,0),(5,3),(6,3),(7,3),(9,3),(2,1),(8,2),(10,2),(11,3),(12,2),(13,3),(14,2)] ?_
 iterate 3 refine pf ?_
 exact Hd
 ):p:=h
theorem Be{p:Prop}(h:p:=by
 go_wp2_with(fail);refine(aR.o rs cn cU rc W ah.o f.o).mono ?_;rintro e aP ⟨rfl,ar⟩;have bs:=ad ar;clear ar;exact xw
 ):p:=h
theorem Bf{p:Prop}(h:p:=by
 obtain⟨e0,bk,a5⟩:=aN.two;have bx:=ad aN;clear a0 ap aj h he aN hx aF bX;go_wp2_with(fail);exact He
 ):p:=h
theorem Bg{p:Prop}(h:p:=by
 go_wp2;go_roundw
 case rel=>exact⟨k+1,ab,by go_num,a7.o,b8.o⟩
 case measure=>exact az
 ):p:=h
theorem vQ{p:Prop}(h:p:=by
 refine aq rfl (λK hK=>?_);go_simp;exact l2
 ):p:=h
theorem Bh{p:Prop}(h:p:=by
 rintro aZ bF j dG ⟨av,ag,eJ,gE,bd⟩;obtain⟨bs,a7,bS⟩:=eJ.two;exact hk
 ):p:=h
theorem Bi{p:Prop}(h:p:=by
 refine ph ?_;refine bh (v:=?_) rfl (by rfl) (λV=>?_) ?_;rotate_left
 .go_simp;exact dW
 try simp only[PU]
 refine pf ?_;refine ph ?_;refine aO rfl (λK hK=>?_);go_simp;refine(aR.o cy n1 c1 _ (S.on (Fr.ext LL.drew)) f.o ac.o).mono ?_;exact A9
 ):p:=h
theorem Bj{p:Prop}(h:p:=by
 refine pf ?_;refine aB ?_;have bs:=ad (Fr.aQ ar);clear ar;exact xw
 ):p:=h
end Go.Proofs.YtflecliffjbleaaGreat
