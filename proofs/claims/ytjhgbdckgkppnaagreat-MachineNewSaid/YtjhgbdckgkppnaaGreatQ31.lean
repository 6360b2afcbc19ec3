/- Part 31 of the proof (CloD CloE0), without conditions of its own. -/
import Derived.Test.YtjhgbdckgkppnaaGreatQ25
namespace Go.Proofs.YtjhgbdckgkppnaaGreat
open Go.RowKit Go.Proofs.Tryz
set_option maxRecDepth 1000000
set_option maxHeartbeats 25600000
set_option linter.unusedVariables false
variable{xs:List Value}{k z:Nat}{P:Nat→Prop}
theorem Sl.Dz{w:World}{b o n:Nat}{l:List D}(h:Sl w P (some ⟨b,o,none⟩) n l)(bv:∀d∈l,d.sz=z)(ap:k≤n):Sl w P (some ⟨b,o+k*z,none⟩) (n - k) (l.drop k):=by
 refine⟨by have:=h.1;simp;omega,fun h0=>?_⟩;obtain⟨K,V,xs,bb,O,aX,ba⟩:=h.2 ad;injection bb with bb;injection bb with ac J;subst ac J;rw[←List.take_append_drop k l] at aX;obtain⟨y,bu,rfl,a3,a⟩:=D.kN aX;have aA:y.length=k*z:=by
  rw[D.jJ _ _ a3,D.ke (z:=z) (fun d hd=>bv d (List.mem_of_mem_take hd)),List.length_take];have:=h.1;rw[Nat.min_eq_left ad]
 refine⟨b,o+k*z,bu,rfl,O,a,fun j u hu=>?_⟩;have:=ba (k*z+j) u (by rw[List.getElem?_append_right ad,aA,Nat.add_sub_cancel_left];exact hu)
 rwa [←Nat.add_assoc] at this
theorem hy{w:World}{P:Nat→Prop}:∀l:List Int,D.aL w P (l.map D.i) (l.map (Value.int .i64))
 | []=>by simp only[GC,D.aL]
 | x::l=>by simp only[Gh];exact a9.2 ⟨_,rfl,hy l⟩
theorem mw{w:World}{P:Nat→Prop}:∀(l:List Int) (xs:List Value),D.aL w P (l.map D.i) xs→xs=l.map (Value.int .i64)
 | [],xs,h=>by simpa only[GC,D.aL] using h
 | x::l,xs,h=>by
  simp only[Gh] at h;obtain⟨y,rfl,J⟩:=a9.1 h;rw[mw l y J,Gh]
theorem j3{w:World}{A:GR}{n:Nat}{l:List Int}(h:Sl w P A n (l.map D.i)):Src w 1 A n (l.map (Value.int .i64)):=by
 obtain⟨xs,aX,hs⟩:=h.src (z:=1) (fun d hd=>by obtain⟨x,_,rfl⟩:=GD.1 hd;rfl)
 rwa [mw l xs aX] at hs
theorem BA(P:Nat→Prop)(lb lo:Nat)(ln lc:Nat)(l:List Int)(n:Int)(w:World)(hl:Sl w P (some ⟨lb,lo,none⟩) ln (l.map .i))(U:∀b,P b→b<w.heap.size)(bJ:ln≤1000000)(aM:ln≤lc)(h0:0<ln) :
  Calls prog 81 #[.slice (some ⟨lb,lo,none⟩) ln lc,.int .i64 n] w
   fun e ab=>∃(A:GR) (m c:Nat) (y:List Int),e=.returned (.slice A m c)∧0<m∧m≤ln+1∧m≤c∧Sl ab (fun b=>P b∨fresh w ab b) A m (y.map .i)∧Ext w ab:=by
 have bG:l.length=ln:=by have:=hl.1;simpa using this
 have b0:=ae hl;have b9:=ae U;clear hl U;go_enter func81,ntmps81;go_wp2_with (fail);refine(vl (some ⟨lb,lo,none⟩) ln lc l n w (b0.mono b9.o) ad).mono ?_;rintro e aH ⟨rfl,bQ⟩;have aI:Ext w aH:=Fr.of bQ;have bp:=ae aI;clear bQ aI;generalize decide (n∈l)=q
 cases q with
 | true=>
  go_wp2_with (fail);go_ret
  exact⟨some ⟨lb,lo,none⟩,ln,lc,l,rfl,h0,ad,aM,(b0.ao fun b O=>bp.block b (b9.o b O) fun h=>h).mono fun b O=>.inl O,bp.o⟩
 | false=>
  go_wp2_with (fail);go_loopw [5] (fun cp wr=>∃k:Nat,k≤ln∧cp=.int .i64 k∧Ext w wr) (fun i _=>ln - (intOf i).toNat)
  case atStart=>exact⟨0,Gz _,rfl,bp.o⟩
  case round=>
   obtain⟨k,ap,rfl,av⟩:=hrel;have bh:=ae av;have hS:Sl wr P (some ⟨lb,lo,none⟩) ln (l.map .i):=b0.ao fun b O=>av.block b (b9.o b O) fun h=>h;have aG:(0:Int)≤(k:Int):=ad;clear av;have j:(k<ln∧∃x,x<n∧wr.cell? ⟨lb,lo+k,none⟩=some (.int .i64 x))∨(k<ln∧∃x,¬x<n∧wr.cell? ⟨lb,lo+k,none⟩=some (.int .i64 x))∨¬k<ln:=by
    by_cases ao:k<ln
    ·obtain⟨b,o,x,cs,bb,O,hm,aX,L,hc⟩:=Sl.fJ (enc:=D.i) (z:=1) hS (fun _=>rfl) ao;injection bb with bb;injection bb with ac J;subst ac J;have am:cs=[.int .i64 x]:=by simpa only[D.rep] using aX
     subst am;have c0:=hc 0 _ rfl;simp only[Nat.mul_one,Gl] at c0;by_cases hx:x<n
     ·exact .inl ⟨ao,x,hx,c0⟩
     ·exact .inr (.inl ⟨ao,x,hx,c0⟩)
    ·exact .inr (.inr ao)
   have a8:=ae hS;clear hS;rcases j with⟨ao,x,hx,c0⟩|j
   ·have bF:(k:Int)<(ln:Int):=ad;go_wp2_with (fail);go_roundw
    case rel=>exact⟨k+1,ad,by go_num,bh.o⟩
    case measure=>simp[intOf];omega
   ·rcases j with⟨ao,x,hx,c0⟩|ao
    ·have bF:(k:Int)≤(ln:Int):=ad;go_upto_region 6 with(fail);have a6:k≤lc:=ad;obtain⟨aO,cd⟩:∃N,N=wr.heap.size:=⟨_,rfl⟩
     refine o2 (fun b=>aO≤b) [7,11] (.free 1 (.free 2 (.free 3 (.free 5 (.free 8 (.free 9 (.free 10 (.pick [0,6] (fun i=>bif i == 0 then .pick [4,6] (fun i=>bif i == 4 then .pick [6] (fun _=>.pick [7] (fun _=>.pick [11] (fun _=>.free 12 (.stop)))) else .pick [4] (fun _=>.pick [7] (fun _=>.pick [11] (fun _=>.free 12 (.stop))))) else .pick [0] (fun _=>.pick [4] (fun _=>.pick [7] (fun _=>.pick [11] (fun _=>.free 12 (.stop)))))))))))))) ?_
     iterate 7 refine tf ?_
     generalize cg:(if lc=k then (some ⟨lb,lo,none⟩:GR) else some ⟨lb,lo+k,none⟩)=A2;have b6:Sl wr P A2 (ln - k) ((l.drop k).map .i):=by
      rw[←cg];split
      ·have:ln - k=0:=ad;rw[this,GJ ad];exact Sl.bu _
      ·have:=a8.Dz (z:=1) (fun d hd=>by obtain⟨x,_,rfl⟩:=GD.1 hd;rfl) ap;rw[Nat.mul_one,←List.map_drop] at this;exact this
     have aw:Sl wr P (some ⟨lb,lo,none⟩) k ((l.take k).map .i):=by rw[List.map_take];exact a8.take ap
     have t:=ae b6;have b1:=ae aw;have E:∀b,P b→b<wr.heap.size:=fun b O=>Gc (b9.o b O) bh.size;have f:=ae E;clear cg b6 aw E;refine f5 (P:=?mM) (ops:=?gQ) (Q:=?gR) (R:=?gS) (tails:=?gT) (rest:=.pick [7] (fun _=>.pick [11] (fun _=>.free 12 (.stop)))) (aa:=?gP)
      (C:=fun(_:Nat) a9 cl cz V=>Ext wr V∧Gr (fun _=>False) aO 3 1 V cl k cz ((l.take k).map D.i)∧ag V a9 3 #[.int .i64 n]) (fun key=>?gh) ?gg
     case gh=>
      refine aR ?_ ?_
      ·
       refine ja ?_;generalize hV:World.drew (World.alloc _ _)=T;have e1:Ext wr T:=hV▸(GN.alloc _).drew;have b5:Gr (fun _=>False) aO 3 1 T (some ⟨wr.heap.size,0,none⟩) 0 0 []:=by rw[←hV,cd];exact(Gr.lit (w:=wr) (n:=0) (l:=[]) rfl (by rfl) ad (by simp only[D.aL])).al GN.drew
       have fE:=j3 (b1.ao fun b O=>e1.block b (f.o b O) fun h=>h);clear hV;refine aR ?_ ?_
       ·
        refine az rfl (fun K hK=>?_) rfl;rw[if_pos (by rfl)];refine f9 dj (.tmp 24) (.tmp 27) (by rfl) b5 (hy (l.take k)) (by simp;omega) fE (fun h=>by cases h) (by rfl) (by rfl) ad ad (by rw[cd];exact e1.size) ?_;intro cl cz cv b4 aF dS c1;refine hK _ _ (aF.mono fun b O=>ad) ?_;clear hK K
        try simp only[PU]
        refine ak ?_;refine dU ?_;have e2:Ext wr cv:=Fr.low (M:=fun b=>wr.heap.size≤b) ((e1.mono fun _ h=>h.elim).trans (aF.mono fun b O=>ad)) fun _ h=>h;have F:Ext wr (cv.alloc (.cells #[.int .i64 n] 3))∧Gr (fun _=>False) aO 3 1 (cv.alloc (.cells #[.int .i64 n] 3)) cl k cz ((l.take k).map D.i)∧ag (cv.alloc (.cells #[.int .i64 n] 3)) cv.heap.size 3 #[.int .i64 n]:=
         ⟨e2.alloc _,b4.al (GN.alloc _),GO⟩
        clear b4 b5 aF dS e1 e2 fE;revert F;generalize cv.heap.size=a9;generalize wr.heap.size=cb;intro F;exact key cb a9 cl cz _ F
       ·
        refine dU ?_;generalize hV:World.alloc _ _=cH;have e2:Ext T cH:=hV▸GN.alloc _;have r:ag cH T.heap.size 3 #[.int .i64 n]:=hV▸GO;have bA:=j3 (b1.ao fun b O=>(e1.trans e2).block b (f.o b O) fun h=>h);clear hV fE;have cq:wr.heap.size<T.heap.size:=(b5.lt (g:=wr.heap.size) rfl).2;refine ak ?_;refine az rfl (fun K hK=>?_) rfl;rw[if_pos (by rfl)];refine f9 dj (.tmp 24) (.tmp 27) (by rfl) (b5.al e2) (hy (l.take k)) (by simp;omega) bA (fun h=>by cases h) (by rfl) (by rfl) ad ad (by rw[cd];exact(e1.trans e2).size) ?_;intro cl cz cv b4 aF dS c1;refine hK _ _ (aF.mono fun b O=>ad) ?_;clear hK K
        try simp only[PU]
        have e3:Ext wr cv:=Fr.low (M:=fun b=>wr.heap.size≤b) (((e1.trans e2).mono fun _ h=>h.elim).trans (aF.mono fun b O=>ad)) fun _ h=>h;have F:Ext wr cv∧Gr (fun _=>False) aO 3 1 cv cl k cz ((l.take k).map D.i)∧ag cv T.heap.size 3 #[.int .i64 n]:=⟨e3,b4,r.on aF ad⟩
        clear b4 b5 aF dS e1 e2 e3 bA r cq;revert F;generalize T.heap.size=a9;generalize wr.heap.size=cb;intro F;exact key cb a9 cl cz _ F
      ·
       refine ja ?_;generalize hV:World.drew (World.alloc _ _)=T;have e1:Ext wr T:=hV▸(GN.alloc _).drew;have r:ag T wr.heap.size 3 #[.int .i64 n]:=hV▸GO;clear hV;refine ak ?_;refine dU ?_;generalize hV:World.alloc _ _=cH;have e2:Ext T cH:=hV▸GN.alloc _;have b5:Gr (fun _=>False) T.heap.size 3 1 cH (some ⟨T.heap.size,0,none⟩) 0 0 []:=hV▸Gr.lit (w:=T) (n:=0) (l:=[]) rfl (by rfl) ad (by simp only[D.aL]);have cc:=r.al e2;have bA:=j3 (b1.ao fun b O=>(e1.trans e2).block b (f.o b O) fun h=>h);have cq:wr.heap.size<T.heap.size:=r.lt;clear hV r;refine ak ?_;refine az rfl (fun K hK=>?_) rfl;rw[if_pos (by rfl)];refine f9 dj (.tmp 24) (.tmp 27) (by rfl) b5 (hy (l.take k)) (by simp;omega) bA (fun h=>by cases h) (by rfl) (by rfl) ad ad e2.size ?_;intro cl cz cv b4 aF dS c1;refine hK _ _ (aF.mono fun b O=>ad) ?_;clear hK K
       try simp only[PU]
       have e3:Ext wr cv:=Fr.low (M:=fun b=>wr.heap.size≤b) (((e1.trans e2).mono fun _ h=>h.elim).trans (aF.mono fun b O=>ad)) fun _ h=>h;have F:Ext wr cv∧Gr (fun _=>False) aO 3 1 cv cl k cz ((l.take k).map D.i)∧ag cv wr.heap.size 3 #[.int .i64 n]:=⟨e3,b4.base ad,cc.on aF ad⟩
       clear b4 b5 aF dS e1 e2 e3 bA cc cq;revert F;generalize T.heap.size=cb;generalize wr.heap.size=a9;intro F;exact key cb a9 cl cz _ F
     case gg=>
      rintro cb a9 cl cz ds ⟨ch,cP,r⟩;have cY:=ch.size;refine ak ?_;refine aY rfl (fun K hK=>?_) rfl;rw[if_pos (by rfl)];refine d8 dj (.tmp 28) (.tmp 30) (by rfl) cP r (show (D.i n).rep ds _ _ from by simp only[D.rep]) (by rfl) (by rfl) (by rfl) ad ad ad ?_;intro I cj fg cU cB dk du;have bT:Ext wr fg:=Fr.low (M:=fun b=>wr.heap.size≤b) ((ch.mono fun _ h=>h.elim).trans (cB.mono fun b O=>by have:=(cP.lt O).1;omega)) fun _ h=>h;clear cP r ch cY cB dk du;have dW:=bT.size;refine hK _ _ ?_;clear hK K
      try simp only[PU]
      refine ak ?_;refine aY rfl (fun K hK=>?_) rfl;rw[if_pos (by rfl)];have s:∀d∈(l.drop k).map D.i,d.sz=1:=fun d hd=>by obtain⟨x,_,rfl⟩:=GD.1 hd;rfl
      refine t1 (k:=(l.drop k).map D.i) (A2:=A2) dj (.tmp 31) (.tmp 34) (by rfl) (cU.mono (Q:=fun b=>P b) fun b _ h=>h.elim) ?_ s (by rfl) (by rfl) ad ad ad ?_
      ·exact((t.ao fun b O=>bT.block b (f.o b O) fun h=>h).mono fun b O=>⟨O,by have:=f.o b O;omega,fun h=>by have:=(cU.lt h).1;have:=f.o b O;omega⟩)
      intro G cT gL v aJ aD u;have a4:Ext wr gL:=Fr.low (M:=fun b=>wr.heap.size≤b) ((bT.mono fun _ h=>h.elim).trans (aJ.mono fun b O=>by have:=(cU.lt O).1;omega)) fun _ h=>h;have H:k+1+(ln - k)=ln+1:=ad;simp only[H] at v u ⊢;refine hK _ _ ?_;clear hK K
      try simp only[PU]
      refine tf ?_;refine bU ?_;clear cU aJ aD bT dW;have bW:=aK v u a4;clear v u a4;go_wp2_with (fail);go_ret;obtain⟨v,u,a4⟩:=bW.o;have bN:=bh.size;have hS:=v.sl (Q:=fun b=>P b∨fresh w gL b) (fun b _ h=>.inl h) (fun b ac J=>.inr ⟨ad,ac⟩);have X:Sl gL (fun b=>P b∨fresh w gL b) G (ln+1) ((l.take k++[n]++l.drop k).map .i):=by simpa only[Gi,Gh,GC] using hS
      have aN:=bh.trans a4
      first
       | exact⟨G,ln+1,cT,rfl,ad,ad,u,⟨l.take k++[n]++l.drop k,X⟩,aN⟩
       | exact⟨G,ln+1,cT,l.take k++[n]++l.drop k,rfl,ad,ad,u,X,aN⟩
    ·have bF:(k:Int)≤(ln:Int):=ad;go_upto_region 6 with(fail);have a6:k≤lc:=ad;obtain⟨aO,cd⟩:∃N,N=wr.heap.size:=⟨_,rfl⟩
     refine o2 (fun b=>aO≤b) [7,11] (.free 1 (.free 2 (.free 3 (.free 5 (.free 8 (.free 9 (.free 10 (.pick [0,6] (fun i=>bif i == 0 then .pick [4,6] (fun i=>bif i == 4 then .pick [6] (fun _=>.pick [7] (fun _=>.pick [11] (fun _=>.free 12 (.stop)))) else .pick [4] (fun _=>.pick [7] (fun _=>.pick [11] (fun _=>.free 12 (.stop))))) else .pick [0] (fun _=>.pick [4] (fun _=>.pick [7] (fun _=>.pick [11] (fun _=>.free 12 (.stop)))))))))))))) ?_
     iterate 7 refine tf ?_
     generalize cg:(if lc=k then (some ⟨lb,lo,none⟩:GR) else some ⟨lb,lo+k,none⟩)=A2;have b6:Sl wr P A2 (ln - k) ((l.drop k).map .i):=by
      rw[←cg];split
      ·have:ln - k=0:=ad;rw[this,GJ ad];exact Sl.bu _
      ·have:=a8.Dz (z:=1) (fun d hd=>by obtain⟨x,_,rfl⟩:=GD.1 hd;rfl) ap;rw[Nat.mul_one,←List.map_drop] at this;exact this
     have aw:Sl wr P (some ⟨lb,lo,none⟩) k ((l.take k).map .i):=by rw[List.map_take];exact a8.take ap
     have t:=ae b6;have b1:=ae aw;have E:∀b,P b→b<wr.heap.size:=fun b O=>Gc (b9.o b O) bh.size;have f:=ae E;clear cg b6 aw E;refine f5 (P:=?iC) (ops:=?iH) (Q:=?iJ) (R:=?iK) (tails:=?iL) (rest:=.pick [7] (fun _=>.pick [11] (fun _=>.free 12 (.stop)))) (aa:=?iD)
      (C:=fun(_:Nat) a9 cl cz V=>Ext wr V∧Gr (fun _=>False) aO 3 1 V cl k cz ((l.take k).map D.i)∧ag V a9 3 #[.int .i64 n]) (fun key=>?hP) ?hN
     case hP=>
      refine aR ?_ ?_
      ·
       refine ja ?_;generalize hV:World.drew (World.alloc _ _)=T;have e1:Ext wr T:=hV▸(GN.alloc _).drew;have b5:Gr (fun _=>False) aO 3 1 T (some ⟨wr.heap.size,0,none⟩) 0 0 []:=by rw[←hV,cd];exact(Gr.lit (w:=wr) (n:=0) (l:=[]) rfl (by rfl) ad (by simp only[D.aL])).al GN.drew
       have fE:=j3 (b1.ao fun b O=>e1.block b (f.o b O) fun h=>h);clear hV;refine aR ?_ ?_
       ·
        refine az rfl (fun K hK=>?_) rfl;rw[if_pos (by rfl)];refine f9 dj (.tmp 24) (.tmp 27) (by rfl) b5 (hy (l.take k)) (by simp;omega) fE (fun h=>by cases h) (by rfl) (by rfl) ad ad (by rw[cd];exact e1.size) ?_;intro cl cz cv b4 aF dS c1;refine hK _ _ (aF.mono fun b O=>ad) ?_;clear hK K
        try simp only[PU]
        refine ak ?_;refine dU ?_;have e2:Ext wr cv:=Fr.low (M:=fun b=>wr.heap.size≤b) ((e1.mono fun _ h=>h.elim).trans (aF.mono fun b O=>ad)) fun _ h=>h;have F:Ext wr (cv.alloc (.cells #[.int .i64 n] 3))∧Gr (fun _=>False) aO 3 1 (cv.alloc (.cells #[.int .i64 n] 3)) cl k cz ((l.take k).map D.i)∧ag (cv.alloc (.cells #[.int .i64 n] 3)) cv.heap.size 3 #[.int .i64 n]:=
         ⟨e2.alloc _,b4.al (GN.alloc _),GO⟩
        clear b4 b5 aF dS e1 e2 fE;revert F;generalize cv.heap.size=a9;generalize wr.heap.size=cb;intro F;exact key cb a9 cl cz _ F
       ·
        refine dU ?_;generalize hV:World.alloc _ _=cH;have e2:Ext T cH:=hV▸GN.alloc _;have r:ag cH T.heap.size 3 #[.int .i64 n]:=hV▸GO;have bA:=j3 (b1.ao fun b O=>(e1.trans e2).block b (f.o b O) fun h=>h);clear hV fE;have cq:wr.heap.size<T.heap.size:=(b5.lt (g:=wr.heap.size) rfl).2;refine ak ?_;refine az rfl (fun K hK=>?_) rfl;rw[if_pos (by rfl)];refine f9 dj (.tmp 24) (.tmp 27) (by rfl) (b5.al e2) (hy (l.take k)) (by simp;omega) bA (fun h=>by cases h) (by rfl) (by rfl) ad ad (by rw[cd];exact(e1.trans e2).size) ?_;intro cl cz cv b4 aF dS c1;refine hK _ _ (aF.mono fun b O=>ad) ?_;clear hK K
        try simp only[PU]
        have e3:Ext wr cv:=Fr.low (M:=fun b=>wr.heap.size≤b) (((e1.trans e2).mono fun _ h=>h.elim).trans (aF.mono fun b O=>ad)) fun _ h=>h;have F:Ext wr cv∧Gr (fun _=>False) aO 3 1 cv cl k cz ((l.take k).map D.i)∧ag cv T.heap.size 3 #[.int .i64 n]:=⟨e3,b4,r.on aF ad⟩
        clear b4 b5 aF dS e1 e2 e3 bA r cq;revert F;generalize T.heap.size=a9;generalize wr.heap.size=cb;intro F;exact key cb a9 cl cz _ F
      ·
       refine ja ?_;generalize hV:World.drew (World.alloc _ _)=T;have e1:Ext wr T:=hV▸(GN.alloc _).drew;have r:ag T wr.heap.size 3 #[.int .i64 n]:=hV▸GO;clear hV;refine ak ?_;refine dU ?_;generalize hV:World.alloc _ _=cH;have e2:Ext T cH:=hV▸GN.alloc _;have b5:Gr (fun _=>False) T.heap.size 3 1 cH (some ⟨T.heap.size,0,none⟩) 0 0 []:=hV▸Gr.lit (w:=T) (n:=0) (l:=[]) rfl (by rfl) ad (by simp only[D.aL]);have cc:=r.al e2;have bA:=j3 (b1.ao fun b O=>(e1.trans e2).block b (f.o b O) fun h=>h);have cq:wr.heap.size<T.heap.size:=r.lt;clear hV r;refine ak ?_;refine az rfl (fun K hK=>?_) rfl;rw[if_pos (by rfl)];refine f9 dj (.tmp 24) (.tmp 27) (by rfl) b5 (hy (l.take k)) (by simp;omega) bA (fun h=>by cases h) (by rfl) (by rfl) ad ad e2.size ?_;intro cl cz cv b4 aF dS c1;refine hK _ _ (aF.mono fun b O=>ad) ?_;clear hK K
       try simp only[PU]
       have e3:Ext wr cv:=Fr.low (M:=fun b=>wr.heap.size≤b) (((e1.trans e2).mono fun _ h=>h.elim).trans (aF.mono fun b O=>ad)) fun _ h=>h;have F:Ext wr cv∧Gr (fun _=>False) aO 3 1 cv cl k cz ((l.take k).map D.i)∧ag cv wr.heap.size 3 #[.int .i64 n]:=⟨e3,b4.base ad,cc.on aF ad⟩
       clear b4 b5 aF dS e1 e2 e3 bA cc cq;revert F;generalize T.heap.size=cb;generalize wr.heap.size=a9;intro F;exact key cb a9 cl cz _ F
     case hN=>
      rintro cb a9 cl cz ds ⟨ch,cP,r⟩;have cY:=ch.size;refine ak ?_;refine aY rfl (fun K hK=>?_) rfl;rw[if_pos (by rfl)];refine d8 dj (.tmp 28) (.tmp 30) (by rfl) cP r (show (D.i n).rep ds _ _ from by simp only[D.rep]) (by rfl) (by rfl) (by rfl) ad ad ad ?_;intro I cj fg cU cB dk du;have bT:Ext wr fg:=Fr.low (M:=fun b=>wr.heap.size≤b) ((ch.mono fun _ h=>h.elim).trans (cB.mono fun b O=>by have:=(cP.lt O).1;omega)) fun _ h=>h;clear cP r ch cY cB dk du;have dW:=bT.size;refine hK _ _ ?_;clear hK K
      try simp only[PU]
      refine ak ?_;refine aY rfl (fun K hK=>?_) rfl;rw[if_pos (by rfl)];have s:∀d∈(l.drop k).map D.i,d.sz=1:=fun d hd=>by obtain⟨x,_,rfl⟩:=GD.1 hd;rfl
      refine t1 (k:=(l.drop k).map D.i) (A2:=A2) dj (.tmp 31) (.tmp 34) (by rfl) (cU.mono (Q:=fun b=>P b) fun b _ h=>h.elim) ?_ s (by rfl) (by rfl) ad ad ad ?_
      ·exact((t.ao fun b O=>bT.block b (f.o b O) fun h=>h).mono fun b O=>⟨O,by have:=f.o b O;omega,fun h=>by have:=(cU.lt h).1;have:=f.o b O;omega⟩)
      intro G cT gL v aJ aD u;have a4:Ext wr gL:=Fr.low (M:=fun b=>wr.heap.size≤b) ((bT.mono fun _ h=>h.elim).trans (aJ.mono fun b O=>by have:=(cU.lt O).1;omega)) fun _ h=>h;have H:k+1+(ln - k)=ln+1:=ad;simp only[H] at v u ⊢;refine hK _ _ ?_;clear hK K
      try simp only[PU]
      refine tf ?_;refine bU ?_;clear cU aJ aD bT dW;have bW:=aK v u a4;clear v u a4;go_wp2_with (fail);go_ret;obtain⟨v,u,a4⟩:=bW.o;have bN:=bh.size;have hS:=v.sl (Q:=fun b=>P b∨fresh w gL b) (fun b _ h=>.inl h) (fun b ac J=>.inr ⟨ad,ac⟩);have X:Sl gL (fun b=>P b∨fresh w gL b) G (ln+1) ((l.take k++[n]++l.drop k).map .i):=by simpa only[Gi,Gh,GC] using hS
      have aN:=bh.trans a4
      first
       | exact⟨G,ln+1,cT,rfl,ad,ad,u,⟨l.take k++[n]++l.drop k,X⟩,aN⟩
       | exact⟨G,ln+1,cT,l.take k++[n]++l.drop k,rfl,ad,ad,u,X,aN⟩
theorem DV:b0 prog 31 155 (.agg #[.int .i64 0,.slice none 0 0]) 2 32:=b0.mk' Tryz.underlying31 (by kernel_rfl) rfl ad
theorem DZ:b0 prog 32 22 (.slice none 0 0) 1 24:=b0.mk' Tryz.underlying32 (by kernel_rfl) rfl ad
theorem hW{w ab:World}{B:Nat}{e:TypeId}{v:Value}{n:Nat}(h:w.ownsRow B e z v n xs)(ap:∀b,v.ownBlock=some b→ab.heap[b]?=w.heap[b]?):ab.ownsRow B e z v n xs:=by
 refine⟨h.1,?_⟩;rcases h.2 with aS|⟨g,cap,cur,bC,j,bf,rest⟩
 ·exact .inl aS
 ·exact .inr ⟨g,cap,cur,bC,j,(ap g (by rw[bC];rfl)).trans bf,rest⟩
structure gp(u:aF)(g B:Nat)(K:Nat→Prop)(w:World)(IA:GR)(n ic:Nat)(aV:GR)(ct bX:Nat)(bH:GR)(cm rc:Nat)(L:List gJ)(cy:List Int):Prop where
 blk:ag w g 34 #[.slice IA n ic,.slice aV ct bX,.slice bH cm rc]
 ins:Gr (fun b=>b≠g∧(Value.slice aV ct bX).ownBlock≠some b∧¬K b) B 155 2 w IA n ic (L.map eM)
 ok:∀x∈L,kG u x
 D5:∃xs,w.ownsRow B 22 1 (.slice aV ct bX) ct xs
 Ek:Sl w (fun b=>b<w.heap.size∧b≠g∧(Value.slice IA n ic).ownBlock≠some b∧(Value.slice aV ct bX).ownBlock≠some b∧¬K b) bH cm (cy.map .i)
 tz:0<cm
 vH:cm≤rc
 ig:∀b,(Value.slice IA n ic).ownBlock=some b→b≠g∧(Value.slice aV ct bX).ownBlock≠some b∧¬K b
 cg:∀b,(Value.slice aV ct bX).ownBlock=some b→b≠g∧¬K b
 kg:¬K g
 kl:∀b,K b→b<w.heap.size
section
variable {u:aF} {g B:Nat} {K:Nat→Prop} {w ab:World} {IA aV bH E Y c:GR} {n ic ct bX cm rc I an a d:Nat} {L:List gJ} {cy f:List Int}
theorem gp.cl(h:gp u g B K w IA n ic aV ct bX bH cm rc L cy):∀b,(Value.slice aV ct bX).ownBlock=some b→B≤b∧b<w.heap.size:=fun b O=>by
 obtain⟨xs,hx⟩:=h.D5;exact hx.lt b O
theorem gp.on(h:gp u g B K w IA n ic aV ct bX bH cm rc L cy)(O:Fr K w ab):gp u g B K ab IA n ic aV ct bX bH cm rc L cy:=by
 refine⟨h.blk.on O h.kg,h.ins.cz O.size fun b ao hp=>O.block b ao ?_,h.ok,?_,(h.Ek.ao fun b hp=>O.block b hp.1 hp.2.2.2.2).mono fun b hp=>⟨Gc hp.1 O.size,hp.2⟩,h.tz,h.vH,h.ig,h.cg,h.kg,fun b ap=>Gc (h.kl b ap) O.size⟩
 ·rcases hp with hp|hp
  ·exact hp.2.2
  ·exact(h.ig b hp).2.2
 ·obtain⟨xs,hx⟩:=h.D5;exact⟨xs,hW hx fun b hp=>O.block b (hx.lt b hp).2 (h.cg b hp).2⟩
theorem gp.apart(h:gp u g B K w IA n ic aV ct bX bH cm rc L cy)(O:Ext w ab)(ap:w.heap.size≤k)(az:k<ab.heap.size):gp u g B (fun b=>b=k) ab IA n ic aV ct bX bH cm rc L cy:=by
 have ac:=h.on (O.mono fun _ h=>h.elim);have F:=h.blk.lt;refine⟨ac.blk,(h.ins.mono fun b ao hp=>⟨hp.1,hp.2.1,ad⟩).al O,h.ok,ac.D5,
  (h.Ek.ao fun b hp=>O.block b hp.1 fun h=>h).mono fun b hp=>⟨Gc hp.1 O.size,hp.2.1,hp.2.2.1,hp.2.2.2.1,by have:=hp.1;omega⟩,
  h.tz,h.vH,fun b hp=>⟨(h.ig b hp).1,(h.ig b hp).2.1,?_⟩,fun b hp=>⟨(h.cg b hp).1,?_⟩,ad,fun b O=>ad⟩
 ·have:=(h.ins.lt hp).2;omega
 ·have:=(h.cl b hp).2;omega
theorem gp.free(h:gp u g B K w IA n ic aV ct bX bH cm rc L cy):gp u g B (fun _=>False) w IA n ic aV ct bX bH cm rc L cy:=
 ⟨h.blk,h.ins.mono fun b _ hp=>⟨hp.1,hp.2.1,fun h=>h⟩,h.ok,h.D5,h.Ek.mono fun b hp=>⟨hp.1,hp.2.1,hp.2.2.1,hp.2.2.2.1,fun h=>h⟩,h.tz,h.vH,fun b hp=>⟨(h.ig b hp).1,(h.ig b hp).2.1,fun h=>h⟩,fun b hp=>⟨(h.cg b hp).1,fun h=>h⟩,fun h=>h,fun _ h=>h.elim⟩
theorem gp.Fx(h:gp u g B K w IA n ic aV ct bX bH cm rc L cy){x:gJ}(hx:kG u x)
  (aM:Gr (fun b=>b≠g∧(Value.slice aV ct bX).ownBlock≠some b∧¬K b) B 155 2 ab E (n+1) I (L.map eM++[eM x])) (aw:Fr (fun b=>(Value.slice IA n ic).ownBlock=some b) w ab) (bi:c4 w IA n ic E (n+1) I) :
  gp u g B K (ab.setCell ⟨g,0,none⟩ (.slice E (n+1) I)) E (n+1) I aV ct bX bH cm rc (L++[x]) cy:=by
 have F:=h.blk.lt;have hs:=aw.size;have dD:∀b,(Value.slice E (n+1) I).ownBlock=some b→b≠g∧(Value.slice aV ct bX).ownBlock≠some b∧¬K b:=fun b hp=>by
  rcases bi b hp with ac|ac
  ·exact h.ig b ac
  ·exact⟨ad,fun hc=>by have:=(h.cl b hc).2;omega,fun ap=>by have:=h.kl b ap;omega⟩
 have bp:Fr (fun b=>b=g) ab (ab.setCell ⟨g,0,none⟩ (.slice E (n+1) I)):=(Fr.refl (fun b=>b=g) ab).setCell (.inl rfl) _;refine⟨(h.blk.on aw fun O=>(h.ig g O).1 rfl).aH 0 _,?_,?_,?_,?_,h.tz,h.vH,dD,h.cg,h.kg,fun b ap=>by have:=h.kl b ap;simp;omega⟩
 ·rw[Gi,Gh,GC];exact aM.cz bp.size fun b ao hp=>bp.block b ao fun O=>by
   subst O;rcases hp with hp|hp
   ·exact hp.1 rfl
   ·exact(dD b hp).1 rfl
 ·intro y a3;rcases Gk.1 a3 with a3|a3
  ·exact h.ok y a3
  ·simp at a3;subst a3;exact hx
 ·obtain⟨xs,hx⟩:=h.D5;exact⟨xs,hW hx fun b hp=>(bp.block b (by have:=(hx.lt b hp).2;omega) (h.cg b hp).1).trans (aw.block b (hx.lt b hp).2 fun O=>(h.ig b O).2.1 hp)⟩
 ·refine(h.Ek.ao fun b hp=>(bp.block b (aB hp.1) hp.2.1).trans (aw.block b hp.1 hp.2.2.1)).mono fun b hp=>⟨by have:=hp.1;simp;omega,hp.2.1,fun O=>?_,hp.2.2.2⟩
  rcases bi b O with ac|ac
  ·exact hp.2.2.1 ac
  ·have:=hp.1;omega
theorem gp.Fw(h:gp u g B K w IA n ic aV ct bX bH cm rc L cy)(aM:ab.ownsRow B 22 1 (.slice Y (ct+1) an) (ct+1) xs)(aw:Fr (fun b=>(Value.slice aV ct bX).ownBlock=some b) w ab)(bi:c4 w aV ct bX Y (ct+1) an):
  gp u g B K (ab.setCell ⟨g,1,none⟩ (.slice Y (ct+1) an)) IA n ic Y (ct+1) an bH cm rc L cy:=by
 have F:=h.blk.lt;have hs:=aw.size;have e:∀b,(Value.slice Y (ct+1) an).ownBlock=some b→b≠g∧¬K b:=fun b hp=>by
  rcases bi b hp with ac|ac
  ·exact h.cg b ac
  ·exact⟨ad,fun ap=>by have:=h.kl b ap;omega⟩
 have bp:Fr (fun b=>b=g) ab (ab.setCell ⟨g,1,none⟩ (.slice Y (ct+1) an)):=(Fr.refl (fun b=>b=g) ab).setCell (.inl rfl) _;refine⟨(h.blk.on aw fun O=>(h.cg g O).1 rfl).aH 1 _,?_,h.ok,?_,?_,h.tz,h.vH,fun b hp=>⟨(h.ig b hp).1,fun O=>?_,(h.ig b hp).2.2⟩,e,h.kg,fun b ap=>by have:=h.kl b ap;simp;omega⟩
 ·have ac:Gr (fun b=>b≠g∧(Value.slice Y (ct+1) an).ownBlock≠some b∧¬K b∧(Value.slice aV ct bX).ownBlock≠some b) B 155 2 w IA n ic (L.map eM):=h.ins.mono fun b ao hp=>⟨hp.1,fun O=>by
   rcases bi b O with ac|ac
   ·exact hp.2.1 ac
   ·omega,hp.2.2,hp.2.1⟩
  have J:=ac.cz (ab:=ab.setCell ⟨g,1,none⟩ (.slice Y (ct+1) an)) (by simp;omega) fun b ao hp=>(bp.block b ad (by
    rcases hp with hp|hp
    ·exact hp.1
    ·exact(h.ig b hp).1)).trans (aw.block b ao (by
    rcases hp with hp|hp
    ·exact hp.2.2.2
    ·exact(h.ig b hp).2.1))
  exact J.mono fun b _ hp=>⟨hp.1,hp.2.1,hp.2.2.1⟩
 ·exact⟨xs,hW aM fun b hp=>bp.block b (aM.lt b hp).2 (e b hp).1⟩
 ·refine(h.Ek.ao fun b hp=>(bp.block b (aB hp.1) hp.2.1).trans (aw.block b hp.1 hp.2.2.2.1)).mono fun b hp=>⟨by have:=hp.1;simp;omega,hp.2.1,hp.2.2.1,fun O=>?_,hp.2.2.2.2⟩
  rcases bi b O with ac|ac
  ·exact hp.2.2.2.1 ac
  ·have:=hp.1;omega
 ·rcases bi b O with ac|ac
  ·exact(h.ig b hp).2.1 ac
  ·have:=(h.ins.lt hp).2;omega
theorem gp.FP(h:gp u g B K w IA n ic aV ct bX bH cm rc L cy)(U:P=fun b=>b<w.heap.size∧b≠g∧(Value.slice IA n ic).ownBlock≠some b∧(Value.slice aV ct bX).ownBlock≠some b∧¬K b)
  (aX:Sl ab (fun b=>P b∨fresh w ab b) c a (f.map .i)) (av:Ext w ab) (h0:0<a) (hc:a≤d) :
  gp u g B K (ab.setCell ⟨g,2,none⟩ (.slice c a d)) IA n ic aV ct bX c a d L f:=by
 subst U;have F:=h.blk.lt;have hs:=av.size;have ac:=h.on (av.mono fun _ h=>h.elim);have bp:Fr (fun b=>b=g) ab (ab.setCell ⟨g,2,none⟩ (.slice c a d)):=(Fr.refl (fun b=>b=g) ab).setCell (.inl rfl) _;refine⟨ac.blk.aH 2 _,ac.ins.cz bp.size fun b ao hp=>bp.block b ao ?_,h.ok,?_,?_,h0,hc,h.ig,h.cg,h.kg,fun b ap=>by have:=h.kl b ap;simp;omega⟩
 ·rcases hp with hp|hp
  ·exact hp.1
  ·exact(h.ig b hp).1
 ·obtain⟨xs,hx⟩:=ac.D5;exact⟨xs,hW hx fun b hp=>bp.block b (hx.lt b hp).2 (h.cg b hp).1⟩
 ·have bu:∀b,((b<w.heap.size∧b≠g∧(Value.slice IA n ic).ownBlock≠some b∧(Value.slice aV ct bX).ownBlock≠some b∧¬K b)∨fresh w ab b)→(b<ab.heap.size∧b≠g∧(Value.slice IA n ic).ownBlock≠some b∧(Value.slice aV ct bX).ownBlock≠some b∧¬K b):=fun b hp=>by
   rcases hp with hp|hp
   ·exact⟨by have:=hp.1;omega,hp.2⟩
   ·have ac:=hp.1;exact⟨hp.2,ad,fun O=>by have:=(h.ins.lt O).2;omega,fun O=>by have:=(h.cl b O).2;omega,fun ap=>by have:=h.kl b ap;omega⟩
  exact((aX.mono bu).ao fun b hp=>bp.block b hp.1 hp.2.1).mono fun b hp=>⟨by have:=hp.1;simp;omega,hp.2⟩
end
end Go.Proofs.YtjhgbdckgkppnaaGreat
