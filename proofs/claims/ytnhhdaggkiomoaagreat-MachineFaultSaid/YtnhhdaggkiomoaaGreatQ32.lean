/- Part 32 of the proof. No condition of its own. -/
import Derived.Test.YtnhhdaggkiomoaaGreatQ27
namespace Go.Proofs.YtnhhdaggkiomoaaGreat
open Go.RowKit Go.Proofs.Tryz
set_option maxRecDepth 1000000
set_option maxHeartbeats 25600000
set_option linter.unusedVariables false
variable{xs:List Value}{k z:Nat}{P:Nat→Prop}
theorem Sl.Im{w:World}{b o n:Nat}{l:List D}(h:Sl w P (some ⟨b,o,none⟩) n l)(bt:∀d∈l,d.sz=z)(ap:k≤n):Sl w P (some ⟨b,o+k*z,none⟩) (n - k) (l.drop k):=by
 refine⟨by have:=h.1;simp;omega,fun h0=>?_⟩;obtain⟨K,R,xs,bw,O,a5,bi⟩:=h.2 ad;injection bw with bw;injection bw with ac av;subst ac av;rw[←List.take_append_drop k l] at a5;obtain⟨y,cG,rfl,bb,a⟩:=D.j2 a5;have ar:y.length=k*z:=by
  rw[D.hb _ _ bb,D.gS (z:=z) (fun d hd=>bt d (List.mem_of_mem_take hd)),List.length_take];have:=h.1;rw[Nat.min_eq_left ad]
 refine⟨b,o+k*z,cG,rfl,O,a,fun j u hu=>?_⟩;have:=bi (k*z+j) u (by rw[List.getElem?_append_right ad,ar,Nat.add_sub_cancel_left];exact hu)
 rwa [←Nat.add_assoc] at this
theorem mE{w:World}{P:Nat→Prop}:∀l:List Int,D.aQ w P (l.map D.i) (l.map (Value.int .i64))
 | []=>by simp only[Le,D.aQ]
 | x::l=>by simp only[KM];exact bm.2 ⟨_,rfl,mE l⟩
theorem nV{w:World}{P:Nat→Prop}:∀(l:List Int) (xs:List Value),D.aQ w P (l.map D.i) xs→xs=l.map (Value.int .i64)
 | [],xs,h=>by simpa only[Le,D.aQ] using h
 | x::l,xs,h=>by
  simp only[KM] at h;obtain⟨y,rfl,av⟩:=bm.1 h;rw[nV l y av,KM]
theorem sO{w:World}{A:Ls}{n:Nat}{l:List Int}(h:Sl w P A n (l.map D.i)):Src w 1 A n (l.map (Value.int .i64)):=by
 obtain⟨xs,a5,hs⟩:=h.src (z:=1) (fun d hd=>by obtain⟨x,_,rfl⟩:=Lf.1 hd;rfl)
 rwa [nV l xs a5] at hs
theorem EH(P:Nat→Prop)(lb lo:Nat)(ln lc:Nat)(l:List Int)(n:Int)(w:World)(hl:Sl w P (some ⟨lb,lo,none⟩) ln (l.map .i))(aZ:∀b,P b→b<w.heap.size)(dt:ln≤1000000)(a2:ln≤lc)(h0:0<ln) :
  Calls prog 84 #[.slice (some ⟨lb,lo,none⟩) ln lc,.int .i64 n] w
   fun e ab=>∃(A:Ls) (m c:Nat) (aO:List Int),e=.returned (.slice A m c)∧0<m∧m≤ln+1∧m≤c∧Sl ab (fun b=>P b∨fresh w ab b) A m (aO.map .i)∧Ext w ab:=by
 have bO:l.length=ln:=by have:=hl.1;simpa using this
 obtain⟨ca,ck⟩:=aI hl aZ;clear hl aZ;go_enter func84,ntmps84;go_wp2_with(fail);refine(yn (some ⟨lb,lo,none⟩) ln lc l n w (ca.mono ck.o) ad).mono ?_;rintro e aS ⟨rfl,bU⟩;have aN:Ext w aS:=Fr.of bU;have bu:=ae aN;clear bU aN;generalize decide (n∈l)=q
 cases q with
 | true=>
  go_wp2_with(fail);go_ret
  exact⟨some ⟨lb,lo,none⟩,ln,lc,l,rfl,h0,ad,a2,(ca.ak fun b O=>bu.block b (ck.o b O) fun h=>h).mono fun b O=>.inl O,bu.o⟩
 | false=>
  go_wp2_with(fail);go_loopw [5] (fun cu wr=>∃k:Nat,k≤ln∧cu=.int .i64 k∧Ext w wr) (fun i _=>ln - (intOf i).toNat)
  case atStart=>exact⟨0,Ld _,rfl,bu.o⟩
  case round=>
   obtain⟨k,ap,rfl,aw⟩:=hrel;have bq:=ae aw;have hS:Sl wr P (some ⟨lb,lo,none⟩) ln (l.map .i):=ca.ak fun b O=>aw.block b (ck.o b O) fun h=>h;have bo:(0:Int)≤(k:Int):=ad;clear aw;have f:(k<ln∧∃x,x<n∧wr.cell? ⟨lb,lo+k,none⟩=some (.int .i64 x))∨(k<ln∧∃x,¬x<n∧wr.cell? ⟨lb,lo+k,none⟩=some (.int .i64 x))∨¬k<ln:=by
    by_cases ak:k<ln
    ·obtain⟨b,o,x,cs,bw,O,hm,a5,E,hc⟩:=Sl.gZ (enc:=D.i) (z:=1) hS (fun _=>rfl) ak;injection bw with bw;injection bw with ac av;subst ac av;have I:cs=[.int .i64 x]:=by simpa only[D.rep] using a5
     subst I;have c0:=hc 0 _ rfl;simp only[Nat.mul_one,KQ] at c0;by_cases hx:x<n
     ·exact .inl ⟨ak,x,hx,c0⟩
     ·exact .inr (.inl ⟨ak,x,hx,c0⟩)
    ·exact .inr (.inr ak)
   have bm:=ae hS;clear hS;rcases f with⟨ak,x,hx,c0⟩|f
   ·have cf:(k:Int)<(ln:Int):=ad;go_wp2_with(fail);go_roundw
    case rel=>exact⟨k+1,ad,by go_num,bq.o⟩
    case measure=>exact aH
   ·rcases f with⟨ak,x,hx,c0⟩|ak
    all_goals
     have cf:(k:Int)≤(ln:Int):=ad;go_upto_region 6 with(fail);have a1:k≤lc:=ad;obtain⟨cY,dA⟩:∃N,N=wr.heap.size:=⟨_,rfl⟩
     refine q4 (fun b=>cY≤b) [7,11] (.free 1 (.free 2 (.free 3 (.free 5 (.free 8 (.free 9 (.free 10 (.pick [0,6] (fun i=>bif i == 0 then .pick [4,6] (fun i=>bif i == 4 then .pick [6] (fun _=>.pick [7] (fun _=>.pick [11] (fun _=>.free 12 (.stop)))) else .pick [4] (fun _=>.pick [7] (fun _=>.pick [11] (fun _=>.free 12 (.stop))))) else .pick [0] (fun _=>.pick [4] (fun _=>.pick [7] (fun _=>.pick [11] (fun _=>.free 12 (.stop)))))))))))))) ?_
     iterate 7 refine tf ?_
     generalize a3:(if lc=k then (some ⟨lb,lo,none⟩:Ls) else some ⟨lb,lo+k,none⟩)=A2;have cA:Sl wr P A2 (ln - k) ((l.drop k).map .i):=by
      rw[←a3];split
      ·have:ln - k=0:=ad;rw[this,Lk ad];exact Sl.bO _
      ·have:=bm.Im (z:=1) (fun d hd=>by obtain⟨x,_,rfl⟩:=Lf.1 hd;rfl) ap;rw[Nat.mul_one,←List.map_drop] at this;exact this
     have U:Sl wr P (some ⟨lb,lo,none⟩) k ((l.take k).map .i):=by rw[List.map_take];exact bm.take ap
     obtain⟨u,c3⟩:=aI cA U;have v:∀b,P b→b<wr.heap.size:=fun b O=>KH (ck.o b O) bq.size;have j:=ae v;clear a3 cA U v;refine iM (P:=?_) (ops:=?_) (Q:=?_) (R:=?_) (tails:=?_) (rest:=.pick [7] (fun _=>.pick [11] (fun _=>.free 12 (.stop)))) (aa:=?_)
      (C:=fun(_:Nat) bK cC cU V=>Ext wr V∧Gr (fun _=>False) cY 3 1 V cC k cU ((l.take k).map D.i)∧aq V bK 3 #[.int .i64 n]) (fun key=>?_) ?_
     rotate_left 6
     ·
      refine aY ?_ ?_
      ·
       refine dP ?_;generalize hV:World.drew (World.alloc _ _)=bz;have e1:=gF hV;have c8:Gr (fun _=>False) cY 3 1 bz (some ⟨wr.heap.size,0,none⟩) 0 0 []:=by rw[←hV,dA];exact(Gr.lit (w:=wr) (n:=0) (l:=[]) rfl (by rfl) ad (by simp only[D.aQ])).ai Lo.drew
       have e4:=sO (c3.ak fun b O=>e1.block b (j.o b O) fun h=>h);clear hV;refine aY ?_ ?_
       ·
        refine aC rfl (fun K hK=>?_) rfl;rw[if_pos (by rfl)];refine jl de (.tmp 24) (.tmp 27) (by rfl) c8 (mE (l.take k)) (by simp;omega) e4 (fun h=>by cases h) (by rfl) (by rfl) ad ad (by rw[dA];exact e1.size) ?_;intro cC cU cQ cd f1 o1 c1;refine dz hK (f1.mono fun b O=>ad) ?_;clear hK K;refine ao ?_;refine dP ?_;have e2:Ext wr cQ:=Fr.low (M:=fun b=>wr.heap.size≤b) ((e1.mono fun _ h=>h.elim).trans (f1.mono fun b O=>ad)) fun _ h=>h;have F:Ext wr (cQ.alloc (.cells #[.int .i64 n] 3))∧Gr (fun _=>False) cY 3 1 (cQ.alloc (.cells #[.int .i64 n] 3)) cC k cU ((l.take k).map D.i)∧aq (cQ.alloc (.cells #[.int .i64 n] 3)) cQ.heap.size 3 #[.int .i64 n]:=
         ⟨e2.alloc _,cd.ai (Lo.alloc _),Lp⟩
        clear cd c8 f1 o1 e1 e2 e4;revert F;generalize cQ.heap.size=bK;generalize wr.heap.size=ds;intro F;exact key ds bK cC cU _ F
       ·
        refine dP ?_;generalize hV:World.alloc _ _=eR;have e2:=aU hV;have cl:aq eR bz.heap.size 3 #[.int .i64 n]:=hV▸Lp;have bE:=sO (c3.ak fun b O=>(e1.trans e2).block b (j.o b O) fun h=>h);clear hV e4;have dK:wr.heap.size<bz.heap.size:=(c8.lt (g:=wr.heap.size) rfl).2;refine ao ?_;refine aC rfl (fun K hK=>?_) rfl;rw[if_pos (by rfl)];refine jl de (.tmp 24) (.tmp 27) (by rfl) (c8.ai e2) (mE (l.take k)) (by simp;omega) bE (fun h=>by cases h) (by rfl) (by rfl) ad ad (by rw[dA];exact(e1.trans e2).size) ?_;intro cC cU cQ cd f1 o1 c1;refine dz hK (f1.mono fun b O=>ad) ?_;clear hK K;have e3:Ext wr cQ:=Fr.low (M:=fun b=>wr.heap.size≤b) (((e1.trans e2).mono fun _ h=>h.elim).trans (f1.mono fun b O=>ad)) fun _ h=>h;have F:Ext wr cQ∧Gr (fun _=>False) cY 3 1 cQ cC k cU ((l.take k).map D.i)∧aq cQ bz.heap.size 3 #[.int .i64 n]:=⟨e3,cd,cl.on f1 ad⟩
        clear cd c8 f1 o1 e1 e2 e3 bE cl dK;revert F;generalize bz.heap.size=bK;generalize wr.heap.size=ds;intro F;exact key ds bK cC cU _ F
      ·
       refine dP ?_;generalize hV:World.drew (World.alloc _ _)=bz;have e1:=gF hV;have cl:aq bz wr.heap.size 3 #[.int .i64 n]:=hV▸Lp;clear hV;refine ao ?_;refine dP ?_;generalize hV:World.alloc _ _=eR;have e2:=aU hV;have c8:Gr (fun _=>False) bz.heap.size 3 1 eR (some ⟨bz.heap.size,0,none⟩) 0 0 []:=hV▸Gr.lit (w:=bz) (n:=0) (l:=[]) rfl (by rfl) ad (by simp only[D.aQ]);have dj:=cl.ai e2;have bE:=sO (c3.ak fun b O=>(e1.trans e2).block b (j.o b O) fun h=>h);have dK:wr.heap.size<bz.heap.size:=cl.lt;clear hV cl;refine ao ?_;refine aC rfl (fun K hK=>?_) rfl;rw[if_pos (by rfl)];refine jl de (.tmp 24) (.tmp 27) (by rfl) c8 (mE (l.take k)) (by simp;omega) bE (fun h=>by cases h) (by rfl) (by rfl) ad ad e2.size ?_;intro cC cU cQ cd f1 o1 c1;refine dz hK (f1.mono fun b O=>ad) ?_;clear hK K;have e3:Ext wr cQ:=Fr.low (M:=fun b=>wr.heap.size≤b) (((e1.trans e2).mono fun _ h=>h.elim).trans (f1.mono fun b O=>ad)) fun _ h=>h;have F:Ext wr cQ∧Gr (fun _=>False) cY 3 1 cQ cC k cU ((l.take k).map D.i)∧aq cQ wr.heap.size 3 #[.int .i64 n]:=⟨e3,cd.base ad,dj.on f1 ad⟩
       clear cd c8 f1 o1 e1 e2 e3 bE dj dK;revert F;generalize bz.heap.size=ds;generalize wr.heap.size=bK;intro F;exact key ds bK cC cU _ F
     ·
      rintro ds bK cC cU gM ⟨cH,c9,cl⟩;have eD:=cH.size;refine ao ?_;refine bN rfl (fun K hK=>?_) rfl;rw[if_pos (by rfl)];refine e5 de (.tmp 28) (.tmp 30) (by rfl) c9 cl (show (D.i n).rep gM _ _ from by simp only[D.rep]) (by rfl) (by rfl) (by rfl) ad ad ad ?_;intro G H fn fk f5 gI gO;have cr:Ext wr fn:=Fr.low (M:=fun b=>wr.heap.size≤b) ((cH.mono fun _ h=>h.elim).trans (f5.mono fun b O=>by have:=(c9.lt O).1;omega)) fun _ h=>h;clear c9 cl cH eD f5 gI gO;have dZ:=cr.size;refine dO hK ?_;clear hK K;refine ao ?_;refine bN rfl (fun K hK=>?_) rfl;rw[if_pos (by rfl)];have s:∀d∈(l.drop k).map D.i,d.sz=1:=fun d hd=>by obtain⟨x,_,rfl⟩:=Lf.1 hd;rfl
      refine EJ (k:=(l.drop k).map D.i) (A2:=A2) de (.tmp 31) (.tmp 34) (by rfl) (fk.mono (Q:=fun b=>P b) fun b _ h=>h.elim) ?_ s (by rfl) (by rfl) ad ad ad ?_
      ·exact((u.ak fun b O=>cr.block b (j.o b O) fun h=>h).mono fun b O=>⟨O,by have:=j.o b O;omega,fun h=>by have:=(fk.lt h).1;have:=j.o b O;omega⟩)
      intro y b2 hg t f6 o6 r;have a7:Ext wr hg:=Fr.low (M:=fun b=>wr.heap.size≤b) ((cr.mono fun _ h=>h.elim).trans (f6.mono fun b O=>by have:=(fk.lt O).1;omega)) fun _ h=>h;have lU:k+1+(ln - k)=ln+1:=ad;simp only[lU] at t r ⊢;refine dO hK ?_;clear hK K;refine tf ?_;refine b3 ?_;clear fk f6 o6 cr dZ;have bV:=aB t r a7;clear t r a7;go_wp2_with(fail);go_ret;obtain⟨t,r,a7⟩:=bV.o;have bW:=bq.size;have hS:=t.sl (Q:=fun b=>P b∨fresh w hg b) (fun b _ h=>.inl h) (fun b ac av=>.inr ⟨ad,ac⟩);have Y:Sl hg (fun b=>P b∨fresh w hg b) y (ln+1) ((l.take k++[n]++l.drop k).map .i):=by simpa only[KN,KM,Le] using hS
      have cq:=bq.trans a7
      first
       | exact⟨y,ln+1,b2,rfl,ad,ad,r,⟨l.take k++[n]++l.drop k,Y⟩,cq⟩
       | exact⟨y,ln+1,b2,l.take k++[n]++l.drop k,rfl,ad,ad,r,Y,cq⟩
theorem G9:ch prog 31 158 (.agg #[.int .i64 0,.slice none 0 0]) 2 32:=ch.mk' Tryz.underlying31 (by kernel_rfl) rfl ad
theorem He:ch prog 32 22 (.slice none 0 0) 1 24:=ch.mk' Tryz.underlying32 (by kernel_rfl) rfl ad
theorem iY{w ab:World}{B:Nat}{e:TypeId}{v:Value}{n:Nat}(h:w.ownsRow B e z v n xs)(ap:∀b,v.ownBlock=some b→ab.heap[b]?=w.heap[b]?):ab.ownsRow B e z v n xs:=by
 refine⟨h.1,?_⟩;rcases h.2 with aV|⟨g,cap,cur,bM,j,a9,rest⟩
 ·exact .inl aV
 ·exact .inr ⟨g,cap,cur,bM,j,(ap g (by rw[bM];rfl)).trans a9,rest⟩
structure hi(u:ay)(g B:Nat)(K:Nat→Prop)(w:World)(IA:Ls)(n ic:Nat)(bx:Ls)(bW bJ:Nat)(cc:Ls)(bF rc:Nat)(L:List hP)(b5:List Int):Prop where
 blk:aq w g 34 #[.slice IA n ic,.slice bx bW bJ,.slice cc bF rc]
 ins:Gr (fun b=>b≠g∧(Value.slice bx bW bJ).ownBlock≠some b∧¬K b) B 158 2 w IA n ic (L.map fA)
 ok:∀x∈L,lV u x
 Hi:∃xs,w.ownsRow B 22 1 (.slice bx bW bJ) bW xs
 HB:Sl w (fun b=>b<w.heap.size∧b≠g∧(Value.slice IA n ic).ownBlock≠some b∧(Value.slice bx bW bJ).ownBlock≠some b∧¬K b) cc bF (b5.map .i)
 wC:0<bF
 yG:bF≤rc
 ig:∀b,(Value.slice IA n ic).ownBlock=some b→b≠g∧(Value.slice bx bW bJ).ownBlock≠some b∧¬K b
 cg:∀b,(Value.slice bx bW bJ).ownBlock=some b→b≠g∧¬K b
 kg:¬K g
 kl:∀b,K b→b<w.heap.size
section
variable {u:ay} {g B:Nat} {K:Nat→Prop} {w ab:World} {IA bx cc F Y c:Ls} {n ic bW bJ bF rc c8 ah a d:Nat} {L:List hP} {b5 f:List Int}
theorem hi.cl(h:hi u g B K w IA n ic bx bW bJ cc bF rc L b5):∀b,(Value.slice bx bW bJ).ownBlock=some b→B≤b∧b<w.heap.size:=fun b O=>by
 obtain⟨xs,hx⟩:=h.Hi;exact hx.lt b O
theorem hi.on(h:hi u g B K w IA n ic bx bW bJ cc bF rc L b5)(O:Fr K w ab):hi u g B K ab IA n ic bx bW bJ cc bF rc L b5:=by
 refine⟨h.blk.on O h.kg,h.ins.dj O.size fun b ak hp=>O.block b ak ?_,h.ok,?_,(h.HB.ak fun b hp=>O.block b hp.1 hp.2.2.2.2).mono fun b hp=>⟨KH hp.1 O.size,hp.2⟩,h.wC,h.yG,h.ig,h.cg,h.kg,fun b ap=>KH (h.kl b ap) O.size⟩
 ·rcases hp with hp|hp
  ·exact hp.2.2
  ·exact(h.ig b hp).2.2
 ·obtain⟨xs,hx⟩:=h.Hi;exact⟨xs,iY hx fun b hp=>O.block b (hx.lt b hp).2 (h.cg b hp).2⟩
theorem hi.apart(h:hi u g B K w IA n ic bx bW bJ cc bF rc L b5)(O:Ext w ab)(ap:w.heap.size≤k)(bX:k<ab.heap.size):hi u g B (fun b=>b=k) ab IA n ic bx bW bJ cc bF rc L b5:=by
 have ac:=h.on (O.mono fun _ h=>h.elim);have o:=h.blk.lt;refine⟨ac.blk,(h.ins.mono fun b ak hp=>⟨hp.1,hp.2.1,ad⟩).ai O,h.ok,ac.Hi,
  (h.HB.ak fun b hp=>O.block b hp.1 fun h=>h).mono fun b hp=>⟨KH hp.1 O.size,hp.2.1,hp.2.2.1,hp.2.2.2.1,by have:=hp.1;omega⟩,
  h.wC,h.yG,fun b hp=>⟨(h.ig b hp).1,(h.ig b hp).2.1,?_⟩,fun b hp=>⟨(h.cg b hp).1,?_⟩,ad,fun b O=>ad⟩
 ·have:=(h.ins.lt hp).2;omega
 ·have:=(h.cl b hp).2;omega
theorem hi.free(h:hi u g B K w IA n ic bx bW bJ cc bF rc L b5):hi u g B (fun _=>False) w IA n ic bx bW bJ cc bF rc L b5:=
 ⟨h.blk,h.ins.mono fun b _ hp=>⟨hp.1,hp.2.1,fun h=>h⟩,h.ok,h.Hi,h.HB.mono fun b hp=>⟨hp.1,hp.2.1,hp.2.2.1,hp.2.2.2.1,fun h=>h⟩,h.wC,h.yG,fun b hp=>⟨(h.ig b hp).1,(h.ig b hp).2.1,fun h=>h⟩,fun b hp=>⟨(h.cg b hp).1,fun h=>h⟩,fun h=>h,fun _ h=>h.elim⟩
theorem hi.I2(h:hi u g B K w IA n ic bx bW bJ cc bF rc L b5){x:hP}(hx:lV u x)
  (a2:Gr (fun b=>b≠g∧(Value.slice bx bW bJ).ownBlock≠some b∧¬K b) B 158 2 ab F (n+1) c8 (L.map fA++[fA x])) (J:Fr (fun b=>(Value.slice IA n ic).ownBlock=some b) w ab) (bn:dq w IA n ic F (n+1) c8) :
  hi u g B K (ab.setCell ⟨g,0,none⟩ (.slice F (n+1) c8)) F (n+1) c8 bx bW bJ cc bF rc (L++[x]) b5:=by
 have o:=h.blk.lt;have hs:=J.size;have dH:∀b,(Value.slice F (n+1) c8).ownBlock=some b→b≠g∧(Value.slice bx bW bJ).ownBlock≠some b∧¬K b:=fun b hp=>by
  rcases bn b hp with ac|ac
  ·exact h.ig b ac
  ·exact⟨ad,fun hc=>by have:=(h.cl b hc).2;omega,fun ap=>by have:=h.kl b ap;omega⟩
 have cj:Fr (fun b=>b=g) ab (ab.setCell ⟨g,0,none⟩ (.slice F (n+1) c8)):=(Fr.refl (fun b=>b=g) ab).setCell (.inl rfl) _;refine⟨(h.blk.on J fun O=>(h.ig g O).1 rfl).aM 0 _,?_,?_,?_,?_,h.wC,h.yG,dH,h.cg,h.kg,fun b ap=>by have:=h.kl b ap;simp;omega⟩
 ·rw[KN,KM,Le];exact a2.dj cj.size fun b ak hp=>cj.block b ak fun O=>by
   subst O;rcases hp with hp|hp
   ·exact hp.1 rfl
   ·exact(dH b hp).1 rfl
 ·intro y bb;rcases KP.1 bb with bb|bb
  ·exact h.ok y bb
  ·simp at bb;subst bb;exact hx
 ·obtain⟨xs,hx⟩:=h.Hi;exact⟨xs,iY hx fun b hp=>(cj.block b (by have:=(hx.lt b hp).2;omega) (h.cg b hp).1).trans (J.block b (hx.lt b hp).2 fun O=>(h.ig b O).2.1 hp)⟩
 ·refine(h.HB.ak fun b hp=>(cj.block b (aD hp.1) hp.2.1).trans (J.block b hp.1 hp.2.2.1)).mono fun b hp=>⟨by have:=hp.1;simp;omega,hp.2.1,fun O=>?_,hp.2.2.2⟩
  rcases bn b O with ac|ac
  ·exact hp.2.2.1 ac
  ·have:=hp.1;omega
theorem hi.I1(h:hi u g B K w IA n ic bx bW bJ cc bF rc L b5)(a2:ab.ownsRow B 22 1 (.slice Y (bW+1) ah) (bW+1) xs)(J:Fr (fun b=>(Value.slice bx bW bJ).ownBlock=some b) w ab)(bn:dq w bx bW bJ Y (bW+1) ah):
  hi u g B K (ab.setCell ⟨g,1,none⟩ (.slice Y (bW+1) ah)) IA n ic Y (bW+1) ah cc bF rc L b5:=by
 have o:=h.blk.lt;have hs:=J.size;have e:∀b,(Value.slice Y (bW+1) ah).ownBlock=some b→b≠g∧¬K b:=fun b hp=>by
  rcases bn b hp with ac|ac
  ·exact h.cg b ac
  ·exact⟨ad,fun ap=>by have:=h.kl b ap;omega⟩
 have cj:Fr (fun b=>b=g) ab (ab.setCell ⟨g,1,none⟩ (.slice Y (bW+1) ah)):=(Fr.refl (fun b=>b=g) ab).setCell (.inl rfl) _;refine⟨(h.blk.on J fun O=>(h.cg g O).1 rfl).aM 1 _,?_,h.ok,?_,?_,h.wC,h.yG,fun b hp=>⟨(h.ig b hp).1,fun O=>?_,(h.ig b hp).2.2⟩,e,h.kg,fun b ap=>by have:=h.kl b ap;simp;omega⟩
 ·have ac:Gr (fun b=>b≠g∧(Value.slice Y (bW+1) ah).ownBlock≠some b∧¬K b∧(Value.slice bx bW bJ).ownBlock≠some b) B 158 2 w IA n ic (L.map fA):=h.ins.mono fun b ak hp=>⟨hp.1,fun O=>by
   rcases bn b O with ac|ac
   ·exact hp.2.1 ac
   ·omega,hp.2.2,hp.2.1⟩
  have av:=ac.dj (ab:=ab.setCell ⟨g,1,none⟩ (.slice Y (bW+1) ah)) (by simp;omega) fun b ak hp=>(cj.block b ad (by
    rcases hp with hp|hp
    ·exact hp.1
    ·exact(h.ig b hp).1)).trans (J.block b ak (by
    rcases hp with hp|hp
    ·exact hp.2.2.2
    ·exact(h.ig b hp).2.1))
  exact av.mono fun b _ hp=>⟨hp.1,hp.2.1,hp.2.2.1⟩
 ·exact⟨xs,iY a2 fun b hp=>cj.block b (a2.lt b hp).2 (e b hp).1⟩
 ·refine(h.HB.ak fun b hp=>(cj.block b (aD hp.1) hp.2.1).trans (J.block b hp.1 hp.2.2.2.1)).mono fun b hp=>⟨by have:=hp.1;simp;omega,hp.2.1,hp.2.2.1,fun O=>?_,hp.2.2.2.2⟩
  rcases bn b O with ac|ac
  ·exact hp.2.2.2.1 ac
  ·have:=hp.1;omega
 ·rcases bn b O with ac|ac
  ·exact(h.ig b hp).2.1 ac
  ·have:=(h.ins.lt hp).2;omega
theorem hi.Jz(h:hi u g B K w IA n ic bx bW bJ cc bF rc L b5)(aZ:P=fun b=>b<w.heap.size∧b≠g∧(Value.slice IA n ic).ownBlock≠some b∧(Value.slice bx bW bJ).ownBlock≠some b∧¬K b)
  (a5:Sl ab (fun b=>P b∨fresh w ab b) c a (f.map .i)) (aw:Ext w ab) (h0:0<a) (hc:a≤d) :
  hi u g B K (ab.setCell ⟨g,2,none⟩ (.slice c a d)) IA n ic bx bW bJ c a d L f:=by
 subst aZ;have o:=h.blk.lt;have hs:=aw.size;have ac:=h.on (aw.mono fun _ h=>h.elim);have cj:Fr (fun b=>b=g) ab (ab.setCell ⟨g,2,none⟩ (.slice c a d)):=(Fr.refl (fun b=>b=g) ab).setCell (.inl rfl) _;refine⟨ac.blk.aM 2 _,ac.ins.dj cj.size fun b ak hp=>cj.block b ak ?_,h.ok,?_,?_,h0,hc,h.ig,h.cg,h.kg,fun b ap=>by have:=h.kl b ap;simp;omega⟩
 ·rcases hp with hp|hp
  ·exact hp.1
  ·exact(h.ig b hp).1
 ·obtain⟨xs,hx⟩:=ac.Hi;exact⟨xs,iY hx fun b hp=>cj.block b (hx.lt b hp).2 (h.cg b hp).1⟩
 ·have bK:∀b,((b<w.heap.size∧b≠g∧(Value.slice IA n ic).ownBlock≠some b∧(Value.slice bx bW bJ).ownBlock≠some b∧¬K b)∨fresh w ab b)→(b<ab.heap.size∧b≠g∧(Value.slice IA n ic).ownBlock≠some b∧(Value.slice bx bW bJ).ownBlock≠some b∧¬K b):=fun b hp=>by
   rcases hp with hp|hp
   ·exact⟨by have:=hp.1;omega,hp.2⟩
   ·have ac:=hp.1;exact⟨hp.2,ad,fun O=>by have:=(h.ins.lt O).2;omega,fun O=>by have:=(h.cl b O).2;omega,fun ap=>by have:=h.kl b ap;omega⟩
  exact((a5.mono bK).ak fun b hp=>cj.block b hp.1 hp.2.1).mono fun b hp=>⟨by have:=hp.1;simp;omega,hp.2⟩
end
end Go.Proofs.YtnhhdaggkiomoaaGreat
