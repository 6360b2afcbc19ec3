/- Part 34 of the proof. No condition of its own. -/
import Derived.Test.YtbkhhfajcgkpgaaGreatQ28
import Derived.Test.YtbkhhfajcgkpgaaGreatQ33
namespace Go.Proofs.YtbkhhfajcgkpgaaGreat
open Go.RowKit Go.Proofs.Tryz
set_option maxRecDepth 1000000
set_option maxHeartbeats 25600000
set_option linter.unusedVariables false
variable{T:List Tok}{k:Nat}{p:Prop}
def et:List ax→al
 | []=>.nil
 | .set v n e::l=>.set v n e (et l)
 | .call g n aS::l=>.call g n aS (et l)
 | .lock u r::l=>.lock u r (et l)
 | .ite e th el::l=>.ite e th el (et l)
 | .gb e th::l=>.gb e th (et l)
 | .ret::l=>.ret (et l)
theorem fm:∀l:List ax,cP (et l)=l.map a2
 | []=>rfl
 | .set v n e::l=>by simp only[et,cP,JW,a2,fm l]
 | .call g n aS::l=>by simp only[et,cP,JW,a2,fm l]
 | .lock u r::l=>by simp only[et,cP,JW,a2,fm l]
 | .ite e th el::l=>by simp only[et,cP,JW,a2,fm l]
 | .gb e th::l=>by simp only[et,cP,JW,a2,fm l]
 | .ret::l=>by simp only[et,cP,JW,a2,fm l]
def ku(T:List Tok):Nat→Nat→Option (List bA×List az)
 | 0,_=>none
 | f+1,k=>if sQ 5 T k then some ([],[]) else match T[k+1]? with
  | none=>none
  | some t=>if t.kind=1 then
    if ck [109,117,116,101,120] T k && !ck [91] T (k+2) && ck [59] T (k+2) && decide (k+3<T.length) then (ku T f (k+3)).map fun q=>(⟨strOf t.text,false,0⟩::q.1,q.2)
    else if ck [102,117,110,99] T k && ck [40] T (k+2) && ck [41] T (k+3) && ck [123] T (k+4) && decide (k+5<T.length) then
     (jv T 100 (k+5)).bind fun s=>(ku T f s.2).map fun q=>(q.1,⟨strOf t.text,[],et s.1⟩::q.2)
    else none
   else none
theorem vN{f:Nat}{ms:List bA}{fs:List az}(h:ku T f k=some (ms,fs)):(sQ 5 T k=true∧ms=[]∧fs=[])∨(sQ 5 T k=false∧∃(t:Tok) (f2:Nat),T[k+1]?=some t∧t.kind=1∧
  ((∃a9,ck [109,117,116,101,120] T k=true∧ck [91] T (k+2)=false∧ck [59] T (k+2)=true∧k+3<T.length∧ku T f2 (k+3)=some (a9,fs)∧ms=⟨strOf t.text,false,0⟩::a9)∨(∃ls bE aR,ck [102,117,110,99] T k=true∧ck [40] T (k+2)=true∧ck [41] T (k+3)=true∧ck [123] T (k+4)=true∧k+5<T.length∧jv T 100 (k+5)=some (ls,bE)∧ku T f2 bE=some (ms,aR)∧fs=⟨strOf t.text,[],et ls⟩::aR))):=by
 cases f with
 | zero=>cases h
 | succ f=>
  unfold ku at h
  cases cl:sQ 5 T k with
  | true=>
   rw[cl,if_pos rfl] at h;injection h with h;injection h with ae aC
   exact .inl ⟨rfl,ae.symm,aC.symm⟩
  | false=>
   rw[cl,if_neg (by simp)] at h;refine .inr ⟨rfl,?_⟩
   cases ht:T[k+1]? with
   | none=>rw[ht] at h;cases h
   | some t=>
    rw[ht] at h;simp only at h;split at h
    ·rename_i bm;refine⟨t,f,rfl,bm,?_⟩;split at h
     ·rename_i hc;simp only[J2,Bool.not_eq_true',Kk] at hc
      cases hp:ku T f (k+3) with
      | none=>rw[hp] at h;cases h
      | some q=>
       rw[hp] at h;injection h with h;injection h with ae aC;refine .inl ⟨q.1,hc.1.1.1,hc.1.1.2,hc.1.2,hc.2,?_,ae.symm⟩;rw[←aC]
     ·split at h
      ·rename_i hc;simp only[J2,Kk] at hc
       cases hs:jv T 100 (k+5) with
       | none=>rw[hs] at h;cases h
       | some s=>
        rw[hs] at h;simp only[Option.bind_some] at h
        cases hp:ku T f s.2 with
        | none=>rw[hp] at h;cases h
        | some q=>
         rw[hp] at h;injection h with h;injection h with ae aC;refine .inr ⟨s.1,s.2,q.2,hc.1.1.1.1,hc.1.1.1.2,hc.1.1.2,hc.1.2,hc.2,rfl,?_,aC.symm⟩;rw[←ae];exact hp
      ·cases h
    ·cases h
theorem uj{T:List Tok}:∀(f k:Nat) (ls:List ax) (F:Nat),jv T f k=some (ls,F)→k<F
 | 0,_,_,_,h=>by cases h
 | f+1,k,ls,F,h=>by
  simp only[jv] at h;split at h
  ·split at h
   ·injection h with h;injection h with _ h;omega
   ·cases h
  ·cases hs:sO T k with
   | none=>rw[hs] at h;cases h
   | some p=>
    rw[hs] at h;simp only[Option.bind_some] at h
    cases bm:jv T f p.2 with
    | none=>rw[bm] at h;cases h
    | some q=>
     rw[bm] at h;injection h with h;injection h with _ h;have ae:=uj f p.2 q.1 q.2 bm;have aC:=xq (show sO T k=some (p.1,p.2) from hs);omega
theorem Gd:bX prog 69 143 (.agg #[.string ⟨#[]⟩,.slice none 0 0,.slice none 0 0]) 3 64:=bX.mk' Tryz.underlying69 (by kernel_rfl) rfl ab
theorem Fr.FT{M M':Nat→Prop}{a b:World}(h:Fr M a b)(hM:∀k,k<a.heap.size→M k→M' k):Fr M' a b:=⟨h.os,h.tape,h.output,h.size,fun k aj hn=>h.block k aj fun hm=>hn (hM k aj hm)⟩
def Da(g:Nat)(w:World):Nat:=match w.cell? ⟨g,1,none⟩ with|some (.int _ z)=>z.toNat|_=>0
theorem bY.pos{w:World}{g:Nat}{A:Kr}{n c:Nat}{deep:Nat}(h:bY w g A n c T k deep):Da g w=k:=by
 unfold Da;rw[h.blk.cell];rfl
namespace BH
theorem jD(h:p:=by
 generalize hX:World.setCell _ _ _=X;have cz:=bW.1;have bZ:Fr (fun b=>b=g+1) b3 X:=hX▸(Fr.refl (fun b=>b=g+1) b3).setCell (.inl rfl) _;have bh:af X (g+1) 71 #[.slice none 0 0,.slice cf (mn+1) c3,.slice FA fn fc]:=hX▸bW.2.2.aC 1 _;have aP:=aQ bh bZ (cz.cO bZ fun b O _=>ab);clear hX cz bZ bh br ah bj;have L:=aT.on aP.2.1 fun b O=>ab;have bo:=L.pos;have bi:=aX.2.2.2.2.2.2.2.2;have u:=ad L;clear L;go_roundw
 case rel=>
  have b0:Fr (fun b=>b=g∨b=g+1) V X:=Fr.FT (M:=fun b=>(b=g∨b=g+1)∨(Value.slice MA mn mc).ownBlock=some b) (Fr.trans (Fr.trans (Fr.trans (Fr.mono aX.2.1 fun _ h=>.inl h) (Fr.mono al.2 fun _ h=>.inl (.inl h))) (Fr.mono bW.2.1 fun _ h=>.inr h)) (Fr.mono aP.2.1 fun _ h=>.inl (.inr h))) fun b O hm=>hm.elim id fun hm=>absurd (cO.o b hm) ab
  iterate 101 apply Exists.intro
  refine⟨⟨k+3,f2,cf,mn+1,c3,FA,fn,fc,am++[⟨strOf t.text,false,0⟩],b2,ag,aR,u.o,b0,aP.1,by rw[JX];exact aP.2.2,l.2.2.2.2.1,?_,aX.2.2.2.2.2.1,?_,aX.2.2.2.2.2.2.2.1⟩,rfl⟩
  ·rw[←aX.2.2.2.2.1,l.2.2.2.2.2];simp
  ·rw[aX.2.2.2.2.2.2.1];simp
 case measure=>rw[bo,bi];have:=u.lt;omega
 ):p:=h
theorem jF(h:p:=by
 have b8:af W w.heap.size 71 #[.slice none 0 0,.slice none 0 0,.slice none 0 0]:=bg▸Ko;have ax:=ai aF b8;have cA:=b8.lt;clear bg aF b8;go_wp2_with(fail);refine(show Calls prog 70 _ W (kb W (T,z,0)) by rw[H.2.2.2.2];exact xd s b o cap W (H.1.on ax.1) ab).mono ?_;rintro e aN ⟨A,n,c,rfl,bJ,eN,bF⟩;have aG:Ext W aN:=Fr.of bF;have bB:n=T.length:=eN.1.symm;have cy:n≤4001:=by rw[bB];exact hn
 have co:0<n:=by rw[bB];exact bQ
 have H1:=aQ aG eN bB;have b1:=aG.size;clear hn bQ bF aG eN bB bJ;go_upto_region 5 with(fail);generalize hV:World.alloc _ _=V;have bf:Ext aN V:=hV▸(Kn.alloc _).alloc _;have dw:af V aN.heap.size 131 #[.slice A n c,.int .i64 ((0:Nat):Int),.int .i64 0,.int .i64 0,.int .i64 0,.int .i64 ((0:Nat):Int)]:=hV▸(Ko).alloc _;have bH:af V (aN.heap.size+1) 71 #[.slice none 0 0,.slice none 0 0,.slice none 0 0]:=hV▸af.ct _ _ _ (by simp);obtain⟨g,aJ⟩:∃g,g=aN.heap.size:=⟨_,rfl⟩
 rw[←aJ] at dw bH ⊢;have bI:bY V g A n c T 0 0:=⟨dw,(H1.2.1.cO (Fr.ext bf) bf.size).fS (Below.refl _ _) |> fun h=>by
  rw[aJ];exact H1.2.1.fS (Fr.ext bf),co,cy⟩
 have cc:=bw bI bH bf aJ;have bM:=bH.lt;have ec:W.heap.size≤g:=ab;clear hV bf dw bH bI aJ;go_wp2_with(fail);go_loopw [78] (fun _ wr=>∃(k a8:Nat) (MA:Kr) (mn mc:Nat) (FA:Kr) (fn fc:Nat) (am a9:List bA) (ag aR:List az),bY wr g A n c T k 0∧Fr (fun b=>b=g∨b=g+1) V wr∧af wr (g+1) 71 #[.slice none 0 0,.slice MA mn mc,.slice FA fn fc]∧k4 V.heap.size 125 3 143 3 wr MA mn mc (am.map dZ) FA fn fc (ag.map dd)∧ku T a8 k=some (a9,aR)∧am++a9=ms∧ag++aR=fs∧mn=am.length∧fn=ag.length) (fun _ wr=>4001 - Da g wr)
 case atStart=>exact⟨0,a8,none,0,0,none,0,0,[],ms,[],fs,cc.1,Kn,cc.2.1,k4.nil _ _ _ _ _ _,H.2.1,rfl,rfl,rfl,rfl⟩
 case round=>
  obtain⟨k,cE,MA,mn,mc,FA,fn,fc,am,a9,ag,aR,aY,hF,aL,hG,b5,aw,ao,fJ,aW⟩:=hrel;have J:=aY.lt;have ay:am.length+a9.length≤12:=by have:=H.2.2.1;rw[←aw,JS] at this;exact this
  have ch:ag.length+aR.length≤16:=by have:=H.2.2.2.1;rw[←ao,JS] at this;exact this
  have S:=aY.pos;have aX:=wH aY hF aL hG aw ao fJ aW S;have gi:=hF.size;obtain⟨a0,ap,ak⟩:=aY.blk.two;rcases vN b5 with⟨cl,cG,bx⟩|⟨cl,t,f2,ht,bm,ci⟩
  ·have ce:=aQ cl cG bx;clear cl cG bx aY hF aL hG aw ao b5 ay ch fJ aW S;go_wp2_with(fail);refine(ox 5 g A n c T k 0 wr aX.1).mono ?_;rintro e aO ⟨rfl,aS⟩;rw[ce.1];have aE:=ad aS;clear a0 ap ak;obtain⟨a0,ap,ak⟩:=(aX.1.blk.ak aS).two;obtain⟨br,ah,bj⟩:=(aX.2.2.1.ak aS).two;have aZ:Ext W aO:=Fr.low (M:=fun b=>b=g∨b=g+1) (Fr.trans (Fr.mono (H1.1.trans cc.2.2.1) fun _ h=>h.elim) (Fr.trans aX.2.1 (Fr.mono aS fun _ h=>h.elim))) fun b O=>ab;have Q:=ax.2.ak aZ;have aa:=ai Q (ax.1.trans aZ);obtain⟨bv,bd,be⟩:=Q.two;have bz:=aS.size;clear aS aZ Q;go_wp2_with(fail);generalize hX:World.setCell _ _ _=Z;obtain⟨bC,bl,bn⟩:=cb (w:=w) [.slice none 0 0,.slice MA mn mc,.slice FA fn fc] (by rfl) aa.1 aa.2 ab hX;have ba:=ai bl bn;clear hX bl bn bv bd be a0 ap ak br ah bj;obtain⟨bv,bd,be⟩:=bC.two;refine Km (v:=.tuple #[.agg #[.slice none 0 0,.slice MA mn mc,.slice FA fn fc],.int .i64 z,.int .i64 0]) (by simp[results,Tryz.results40,go_sem,bv]) rfl ?_;have hm:am=ms:=by have:=aX.2.2.2.2.1;rw[ce.2.1,Kf] at this;exact this
   have aD:ag=fs:=by have:=aX.2.2.2.2.2.1;rw[ce.2.2,Kf] at this;exact this
   have au:=aX.2.2.2.1.ak aE.o;have bu:=ba.2.size;have eI:=au.cO ba.2 fun b O _=>by have:=cc.2.2.1.size;omega
   rw[hm,aD] at eI;have cM:=cc.2.2.1.size;exact⟨MA,mn,mc,FA,fn,fc,z,rfl,⟨Sl.bG _,eI.one.sl (fun b ae aC=>⟨by have:=aC.1;omega,ae⟩) (fun b ae aC=>⟨ab,ae⟩),eI.two.sl (fun b ae aC=>⟨by have:=aC.1;omega,ae⟩) (fun b ae aC=>⟨ab,ae⟩)⟩,eI.one.cap.1,eI.two.cap.1,ba.1⟩
  ·rcases ci with⟨b2,cQ,cU,cH,bq,cp,bk⟩|⟨ls,bE,bX,cQ,cU,cH,bq,cp,bk,d8,cm⟩
   ·
    have cg:T.length≤n:=Nat.le_of_eq H1.2.2.symm;have b6:a9.length=b2.length+1:=by rw[bk];rfl
    have bN:mn≤11:=ab;have cx:((mn:Int) == 12)=false:=by simp;omega
    have ep:k+3<n:=ab;have cd:=ad cl;have P:=aQ cQ (show ck [118,97,114] T k=false from ga cQ (by decide)) (show ck [102,117,110,99] T k=false from ga cQ (by decide));have l:=dQ ht bm cU cH cp bk;clear aY hF aL hG aw ao b5 fJ aW S cl cQ cU cH bq cp bk ht bm b6 ay ch;have bb:g+1≠g:=ab;go_wp2_with(fail);refine(ox 5 g A n c T k 0 wr aX.1).mono ?_;rintro e v0 ⟨rfl,aS⟩;rw[cd.o];have aU:=ai (aX.1.ak aS) (aS.mono (M':=fun b=>b=g) fun _ h=>h.elim);clear aS a0 ap ak;go_wp2_with(fail);refine(show Calls prog 72 #[.pointer (some ⟨g,0,none⟩),.string ⟨#[118,97,114]⟩] v0 _ from lj [118,97,114] g A n c T (k) 0 v0 aU.1).mono ?_;rintro e v1 ⟨rfl,aF⟩;rw[P.2.1];have bp:=ai (aU.1.ak aF) (aU.2.trans (aF.mono (M':=fun b=>b=g) fun _ h=>h.elim));clear aF;go_wp2_with(fail);refine(show Calls prog 72 #[.pointer (some ⟨g,0,none⟩),.string ⟨#[109,117,116,101,120]⟩] v1 _ from lj [109,117,116,101,120] g A n c T (k) 0 v1 bp.1).mono ?_;rintro e v2 ⟨rfl,aF⟩;rw[P.1];have a7:=ai (bp.1.ak aF) (bp.2.trans (aF.mono (M':=fun b=>b=g) fun _ h=>h.elim));clear aF;go_wp2_with(fail);refine(show Calls prog 72 #[.pointer (some ⟨g,0,none⟩),.string ⟨#[102,117,110,99]⟩] v2 _ from lj [102,117,110,99] g A n c T (k) 0 v2 a7.1).mono ?_;rintro e r ⟨rfl,aF⟩;rw[P.2.2];have aM:=ai (a7.1.ak aF) (a7.2.trans (aF.mono (M':=fun b=>b=g) fun _ h=>h.elim));clear aF;obtain⟨br,ah,bj⟩:=(aX.2.2.1.on aM.2 ab).two;go_wp2_with(fail)
    refine(show Calls prog 74 #[.pointer (some ⟨g,0,none⟩),.string ⟨#[118,97,114]⟩] r _ from dj [118,97,114] g A n c T (k) 0 r aM.1 false P.2.1 (fun h=>by cases h)).mono ?_;rintro e v4 ⟨rfl,aY,hF⟩;have bt:=ai (show bY v4 g A n c T (k) 0 from by simpa using aY) (aM.2.trans hF);clear aY hF;clear br ah bj;go_wp2_with(fail);refine(show Calls prog 74 #[.pointer (some ⟨g,0,none⟩),.string ⟨#[109,117,116,101,120]⟩] v4 _ from dj [109,117,116,101,120] g A n c T (k) 0 v4 bt.1 true P.1 (fun _=>ab)).mono ?_;rintro e bP ⟨rfl,aY,hF⟩;have bD:=ai (show bY bP g A n c T (k+1) 0 from by simpa using aY) (bt.2.trans hF);clear aY hF;obtain⟨br,ah,bj⟩:=(aX.2.2.1.on bD.2 ab).two;go_upto_region 13 with(fail);refine eE (fun b=>b=g) [(0,3),(1,0),(2,3),(3,1),(4,1),(5,2),(6,3),(7,2)] ?_;refine pf ?_;refine pV ?_;refine pf ?_;refine aK rfl (fun K hK=>?_);go_simp;refine(Dd g A n c T (k+1) 0 bP.drew t (bD.1.ak (Fr.refl _ bP).drew) l.1 l.2.1 l.2.2.1 l.2.2.2.1 ep).mono ?_;rintro e v6 ⟨rfl,aY,hF⟩;have al:=ai (show bY v6 g A n c T (k+3) 0 from aY) (bD.2.trans (Fr.aO hF));refine dW hK (hF) ?_;clear hK K;clear aY hF br ah bj;refine ru ?_;have b9:=aX.2.2.2.1.cO al.2 fun b O _=>ab;have bO:=al.2.size;have bL:=ad b9;have a1:=aX.2.2.1.on al.2 bb;have cr:=ad a1;clear b9 a1;refine aq rfl (fun K hK=>?_);rw[if_pos (by rfl)];refine qn lD (.tmp 92) (.tmp 95) (by rfl) bL.one (d:=dZ ⟨strOf t.text,false,0⟩) (cs:=#[.string (strOf t.text),.bool false,.int .i64 0]) (eR.2 rfl) (by rfl) (by rfl) (by rfl) ab ab ab ?_
    intro cf c3 b3 b7 g2 ca cJ;have N:∀b,(Value.slice MA mn mc).ownBlock=some b→V.heap.size≤b:=fun b O=>(bL.one.lt O).1;have bW:=aQ (bL.grow b7 g2 ca) g2 (cr.on g2 fun O=>by have:=N _ O;omega);have aT:=ad (al.1.on g2 fun b O=>by have:=N b O;omega);have cO:=ad N;obtain⟨br,ah,bj⟩:=bW.2.2.two;clear b7 g2 ca cJ N;exact lB
   ·
    have cg:T.length≤n:=Nat.le_of_eq H1.2.2.symm;have b6:aR.length=bX.length+1:=by rw[cm];rfl
    have a5:fn≤15:=ab;have cw:((fn:Int) == 16)=false:=by simp;omega
    have aI:k+5<n:=ab;have cn:=uj _ _ _ _ bk;have cd:=ad cl;have P:=bw cQ (show ck [118,97,114] T k=false from ga cQ (by decide)) (show ck [109,117,116,101,120] T k=false from ga cQ (by decide)) (show ck [114,109,117,116,101,120] T k=false from ga cQ (by decide));have l:=s7 ht bm cU cH bq bk d8 cm;clear aY hF aL hG aw ao b5 fJ aW S cl cQ cU cH bq cp bk d8 cm ht bm b6 ay ch;have bb:g+1≠g:=ab;go_wp2_with(fail);refine(ox 5 g A n c T k 0 wr aX.1).mono ?_;rintro e v0 ⟨rfl,aS⟩;rw[cd.o];have aU:=ai (aX.1.ak aS) (aS.mono (M':=fun b=>b=g) fun _ h=>h.elim);clear aS a0 ap ak;go_wp2_with(fail);refine(show Calls prog 72 #[.pointer (some ⟨g,0,none⟩),.string ⟨#[118,97,114]⟩] v0 _ from lj [118,97,114] g A n c T (k) 0 v0 aU.1).mono ?_;rintro e v1 ⟨rfl,aF⟩;rw[P.2.1];have bp:=ai (aU.1.ak aF) (aU.2.trans (aF.mono (M':=fun b=>b=g) fun _ h=>h.elim));clear aF;go_wp2_with(fail);refine(show Calls prog 72 #[.pointer (some ⟨g,0,none⟩),.string ⟨#[109,117,116,101,120]⟩] v1 _ from lj [109,117,116,101,120] g A n c T (k) 0 v1 bp.1).mono ?_;rintro e v2 ⟨rfl,aF⟩;rw[P.2.2.1];have a7:=ai (bp.1.ak aF) (bp.2.trans (aF.mono (M':=fun b=>b=g) fun _ h=>h.elim));clear aF;go_wp2_with(fail);refine(show Calls prog 72 #[.pointer (some ⟨g,0,none⟩),.string ⟨#[114,109,117,116,101,120]⟩] v2 _ from lj [114,109,117,116,101,120] g A n c T (k) 0 v2 a7.1).mono ?_;rintro e r ⟨rfl,aF⟩;rw[P.2.2.2];have aM:=ai (a7.1.ak aF) (a7.2.trans (aF.mono (M':=fun b=>b=g) fun _ h=>h.elim));clear aF;go_wp2_with(fail)
    refine(show Calls prog 72 #[.pointer (some ⟨g,0,none⟩),.string ⟨#[102,117,110,99]⟩] r _ from lj [102,117,110,99] g A n c T (k) 0 r aM.1).mono ?_;rintro e v4 ⟨rfl,aF⟩;rw[P.1];have bt:=ai (aM.1.ak aF) (aM.2.trans (aF.mono (M':=fun b=>b=g) fun _ h=>h.elim));clear aF;obtain⟨br,ah,bj⟩:=(aX.2.2.1.on bt.2 ab).two;go_wp2_with(fail);refine(show Calls prog 74 #[.pointer (some ⟨g,0,none⟩),.string ⟨#[118,97,114]⟩] v4 _ from dj [118,97,114] g A n c T (k) 0 v4 bt.1 false P.2.1 (fun h=>by cases h)).mono ?_;rintro e bP ⟨rfl,aY,hF⟩;have bD:=ai (show bY bP g A n c T (k) 0 from by simpa using aY) (bt.2.trans hF);clear aY hF;clear br ah bj;go_wp2_with(fail);refine(show Calls prog 74 #[.pointer (some ⟨g,0,none⟩),.string ⟨#[109,117,116,101,120]⟩] bP _ from dj [109,117,116,101,120] g A n c T (k) 0 bP bD.1 false P.2.2.1 (fun h=>by cases h)).mono ?_;rintro e v6 ⟨rfl,aY,hF⟩;have al:=ai (show bY v6 g A n c T (k) 0 from by simpa using aY) (bD.2.trans hF);clear aY hF;go_wp2_with(fail);refine(show Calls prog 74 #[.pointer (some ⟨g,0,none⟩),.string ⟨#[114,109,117,116,101,120]⟩] v6 _ from dj [114,109,117,116,101,120] g A n c T (k) 0 v6 al.1 false P.2.2.2 (fun h=>by cases h)).mono ?_;rintro e b3 ⟨rfl,aY,hF⟩;have cq:=ai (show bY b3 g A n c T (k) 0 from by simpa using aY) (al.2.trans hF);clear aY hF;go_wp2_with(fail);refine(show Calls prog 74 #[.pointer (some ⟨g,0,none⟩),.string ⟨#[102,117,110,99]⟩] b3 _ from dj [102,117,110,99] g A n c T (k) 0 b3 cq.1 true P.1 (fun _=>ab)).mono ?_
    rintro e a3 ⟨rfl,aY,hF⟩;have cv:=ai (show bY a3 g A n c T (k+1) 0 from by simpa using aY) (cq.2.trans hF);clear aY hF;go_wp2_with(fail);refine(oy g A n c T (k+1) 0 a3 t cv.1 l.1 l.2.1 ab).mono ?_;rintro e bK ⟨rfl,aY,hF⟩;have b4:=ai (show bY bK g A n c T (k+2) 0 from aY) (cv.2.trans hF);have cu:=b4.2.size;clear aY hF;go_upto_region 18 with(fail);generalize hX:World.alloc _ _=Z;have bl:Ext bK Z:=hX▸Kn.alloc _;have m:af Z bK.heap.size 143 #[.string (strOf t.text),.slice none 0 0,.slice none 0 0]:=hX▸Ko;have aV:=aQ (b4.1.ak bl) (b4.2.trans (bl.mono (M':=fun b=>b=g) fun _ h=>h.elim)) m;have hE:g<bK.heap.size:=b4.1.blk.lt;clear hX bl m;go_wp2_with(fail);refine(yg g A n c T (k+2) 0 Z aV.1 l.2.2.1 l.2.2.2.1 ab).mono ?_;rintro e v11 ⟨rfl,aY,hF⟩;have m:=aV.2.2.on hF ab;have aB:=aQ (show bY v11 g A n c T (k+4) 0 from aY) (aV.2.1.trans hF) m;obtain⟨cj,j,y⟩:=m.two;clear aY hF m;go_upto_region 19 with(fail);generalize hX:World.setCell _ _ _=Y;have ar:Fr (fun b=>b=bK.heap.size) v11 Y:=hX▸(Fr.refl (fun b=>b=bK.heap.size) v11).setCell (.inl rfl) _;have m:af Y bK.heap.size 143 #[.string (strOf t.text),.slice none 0 0,.slice none 0 0]:=hX▸aB.2.2.aC 1 (.slice none 0 0);have a6:=aQ (aB.1.on ar fun b O=>ab) (aB.2.1.eB (ar.below aB.2.1.size fun k aj h=>ab)) m;have cB:bK.heap.size<Y.heap.size:=m.lt;clear hX ar m cj j y;go_wp2_with(fail);refine(Dc g A n c T (k+4) 0 Y 100 ls bE a6.1 ab l.2.2.2.2.1 ab l.2.2.2.2.2.1).mono ?_;rintro e av ⟨bs,on,bG,rfl,bU,bV,aY,hF⟩;have m:=a6.2.2.on hF ab
    have U:=dA aY (a6.2.1.trans hF) m bU bV;have cC:=hF.size;obtain⟨cj,j,y⟩:=m.two;clear aY hF m bU bV;go_upto_region 20 with(fail);generalize hX:World.setCell _ _ _=f1;have ar:Fr (fun b=>b=bK.heap.size) av f1:=hX▸(Fr.refl (fun b=>b=bK.heap.size) av).setCell (.inl rfl) _;have m:af f1 bK.heap.size 143 #[.string (strOf t.text),.slice none 0 0,.slice bs on bG]:=hX▸U.2.2.1.aC 2 (.slice bs on bG);have an:Fr (fun b=>b=g) wr f1:=U.2.1.eB (ar.below U.2.1.size fun k aj h=>ab);have b9:=aX.2.2.2.1.cO an fun b O _=>ab;have bO:=an.size;have cD:=ar.size;have bT:Sl f1 (fresh Y av) bs on (ls.map a2):=U.2.2.2.2.aj fun b O=>ar.block b O.2 (aH O.1);have ct:∀b,(Value.slice MA mn mc).ownBlock=some b→b<wr.heap.size:=fun b O=>(aX.2.2.2.1.one.lt O).2;have a4:∀b,(Value.slice FA fn fc).ownBlock=some b→b<wr.heap.size:=fun b O=>(aX.2.2.2.1.two.lt O).2;have bS:(dd ⟨strOf t.text,[],et ls⟩).rep f1 (lg (fun b=>V.heap.size≤b∧(Value.slice MA mn mc).ownBlock≠some b) f1 (.slice FA fn fc)) [.string (strOf t.text),.slice none 0 0,.slice bs on bG]:=
     kL.2 ⟨none,0,0,bs,on,bG,rfl,JQ _,U.2.2.2.1,Sl.bG _,by rw[fm];exact bT.mono fun b O=>⟨⟨by have:=O.1;omega,fun h=>by have:=ct b h;have:=O.1;omega⟩,by have:=O.2;omega,fun h=>by have:=a4 b h;have:=O.1;omega⟩⟩
    have bL:=ai b9 bS;have a1:=aX.2.2.1.on an bb;have cr:=ad a1;have al:=ai (U.1.on ar fun b O=>ab) an;clear hX ar an b9 bT ct a4 bS cj j y;obtain⟨cj,j,y⟩:=m.two;obtain⟨br,ah,bj⟩:=a1.two;clear m a1;go_wp2_with(at_builtin;refine bR Gd rfl (.tmp 121) (.tmp 123) rfl bL.1.two (d:=dd ⟨strOf t.text,[],et ls⟩) (cs:=#[.string (strOf t.text),.slice none 0 0,.slice bs on bG]) bL.2 rfl rfl rfl ab ab ab ?_;intro cf c3 b3 b7 g2 ca cJ;have N:∀b,(Value.slice FA fn fc).ownBlock=some b→V.heap.size≤b:=fun b O=>(bL.1.two.lt O).1;have bW:=aQ ((bL.1.swap.grow b7 g2 ca).swap) g2 (cr.on g2 fun O=>by have:=N _ O;omega);have aT:=ad (al.1.on g2 fun b O=>by have:=N b O;omega);have cO:=ad N;clear br ah bj cj j y;obtain⟨br,ah,bj⟩:=bW.2.2.two;clear b7 g2 ca cJ N);generalize hX:World.setCell _ _ _=X;have cz:=bW.1;have bZ:Fr (fun b=>b=g+1) b3 X:=hX▸(Fr.refl (fun b=>b=g+1) b3).setCell (.inl rfl) _;have bh:af X (g+1) 71 #[.slice none 0 0,.slice MA mn mc,.slice cf (fn+1) c3]:=hX▸bW.2.2.aC 2 _;have aP:=aQ bh bZ (cz.cO bZ fun b O _=>ab);clear hX cz bZ bh br ah bj;have L:=aT.on aP.2.1 fun b O=>ab;have bo:=L.pos;have bi:=aX.2.2.2.2.2.2.2.2;have u:=ad L;clear L;go_roundw
    case rel=>
     have b0:Fr (fun b=>b=g∨b=g+1) V X:=Fr.FT (M:=fun b=>(b=g∨b=g+1)∨(Value.slice FA fn fc).ownBlock=some b) (Fr.trans (Fr.trans (Fr.trans (Fr.mono aX.2.1 fun _ h=>.inl h) (Fr.mono al.2 fun _ h=>.inl (.inl h))) (Fr.mono bW.2.1 fun _ h=>.inr h)) (Fr.mono aP.2.1 fun _ h=>.inl (.inr h))) fun b O hm=>hm.elim id fun hm=>absurd (cO.o b hm) ab;refine⟨bE,f2,MA,mn,mc,cf,fn+1,c3,am,a9,ag++[⟨strOf t.text,[],et ls⟩],bX,u.o,b0,aP.1,by rw[JX];exact aP.2.2,l.2.2.2.2.2.2.1,aX.2.2.2.2.1,?_,aX.2.2.2.2.2.2.1,?_⟩
     ·rw[←aX.2.2.2.2.2.1,l.2.2.2.2.2.2.2];simp
     ·rw[aX.2.2.2.2.2.2.2.1];simp
    case measure=>rw[bo,bi];have:=u.lt;omega
 ):p:=h
end BH
open BH in
theorem yd(s:ByteArray)(b o cap:Nat)(w:World)(ms:List bA)(fs:List az)(a8:Nat)(h:eU w b o cap s)(hs:s.size≤4000)(hn:(dX s.data.toList).1.length≤4001)(bQ:0<(dX s.data.toList).1.length)(he:(dX s.data.toList).2.2=0)(hp:ku (dX s.data.toList).1 a8 0=some (ms,fs))(ay:ms.length≤12)(ch:fs.length≤16) :
  Calls prog 40 #[.slice (some ⟨b,o,none⟩) s.size cap] w fun e ac=>∃(MA:Kr) (mn mc:Nat) (FA:Kr) (fn fc:Nat) (z:Int),e=.returned (.tuple #[.agg #[.slice none 0 0,.slice MA mn mc,.slice FA fn fc],.int .i64 z,.int .i64 0])∧g1 ac (fresh w ac) ⟨[],ms,fs⟩ none 0 MA mn FA fn∧mn≤mc∧fn≤fc∧Ext w ac:=by
 obtain⟨R,bc⟩:∃R,R=dX s.data.toList:=⟨_,rfl⟩
 rw[←bc] at hn bQ he hp;obtain⟨T,z,cF⟩:=R;simp only at hn bQ he hp;subst he;have H:=dA h hp ay ch bc;clear h hp ay ch bc;go_enter func40,ntmps40;exact jE
end Go.Proofs.YtbkhhfajcgkpgaaGreat
