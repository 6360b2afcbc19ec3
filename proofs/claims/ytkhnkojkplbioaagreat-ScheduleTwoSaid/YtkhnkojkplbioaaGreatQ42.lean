/- Part 42 of the proof. No condition of its own. -/
import Derived.Test.YtkhnkojkplbioaaGreatQ33
import Derived.Test.YtkhnkojkplbioaaGreatQ41
namespace Go.Proofs.YtkhnkojkplbioaaGreat
open Go.RowKit Go.Proofs.Tryz
set_option maxRecDepth 1000000
set_option maxHeartbeats 25600000
set_option linter.unusedVariables false
variable{T:List Tok}{k:Nat}
def eM:List aA->an
 | []=>.nil
 | .set v n e::l=>.set v n e (eM l)
 | .call g n aV::l=>.call g n aV (eM l)
 | .lock u r::l=>.lock u r (eM l)
 | .ite e th el::l=>.ite e th el (eM l)
 | .gz e th::l=>.gz e th (eM l)
 | .ret::l=>.ret (eM l)
theorem fI:∀l:List aA,c6 (eM l)=l.map bj
 | []=>rfl
 | .set v n e::l=>by simp only[eM,c6,Lq,bj,fI l]
 | .call g n aV::l=>by simp only[eM,c6,Lq,bj,fI l]
 | .lock u r::l=>by simp only[eM,c6,Lq,bj,fI l]
 | .ite e th el::l=>by simp only[eM,c6,Lq,bj,fI l]
 | .gz e th::l=>by simp only[eM,c6,Lq,bj,fI l]
 | .ret::l=>by simp only[eM,c6,Lq,bj,fI l]
def ko(T:List Tok):Nat->Nat->Option (List bD×List aK)
 | 0,_=>none
 | f+1,k=>if tK 5 T k then some ([],[]) else match T[k+1]? with
  | none=>none
  | some t=>if t.kind=1 then
    if cA [109,117,116,101,120] T k && !cA [91] T (k+2) && cA [59] T (k+2) && decide (k+3<T.length) then (ko T f (k+3)).map λq=>(⟨strOf t.text,false,0⟩::q.1,q.2)
    else if cA [102,117,110,99] T k && cA [40] T (k+2) && cA [41] T (k+3) && cA [123] T (k+4) && decide (k+5<T.length) then
     (jO T 100 (k+5)).bind λs=>(ko T f s.2).map λq=>(q.1,⟨strOf t.text,[],eM s.1⟩::q.2)
    else none
   else none
theorem w3{f:Nat}{ms:List bD}{fs:List aK}(h:ko T f k=some (ms,fs)):(tK 5 T k=true/\ms=[]/\fs=[])\/(tK 5 T k=false/\∃(t:Tok) (f2:Nat),T[k+1]?=some t/\t.kind=1/\
  ((∃cD,cA [109,117,116,101,120] T k=true/\cA [91] T (k+2)=false/\cA [59] T (k+2)=true/\k+3<T.length/\ko T f2 (k+3)=some (cD,fs)/\ms=⟨strOf t.text,false,0⟩::cD)\/(∃ls bS aP,cA [102,117,110,99] T k=true/\cA [40] T (k+2)=true/\cA [41] T (k+3)=true/\cA [123] T (k+4)=true/\k+5<T.length/\jO T 100 (k+5)=some (ls,bS)/\ko T f2 bS=some (ms,aP)/\fs=⟨strOf t.text,[],eM ls⟩::aP))):=by
 cases f with
 | zero=>cases h
 | succ f=>
  unfold ko at h
  cases cI:tK 5 T k with
  | true=>
   rw[cI,if_pos rfl] at h;injection h with h;injection h with ac au
   exact .inl ⟨rfl,ac.symm,au.symm⟩
  | false=>
   rw[cI,if_neg (by simp)] at h;refine .inr ⟨rfl,?_⟩
   cases ht:T[k+1]? with
   | none=>rw[ht] at h;cases h
   | some t=>
    rw[ht] at h;simp only at h;split at h
    .rename_i bA;refine⟨t,f,rfl,bA,?_⟩;split at h
     .rename_i hc;simp only[Lw,Bool.not_eq_true',LR] at hc
      cases hp:ko T f (k+3) with
      | none=>rw[hp] at h;cases h
      | some q=>
       rw[hp] at h;injection h with h;injection h with ac au;refine .inl ⟨q.1,hc.1.1.1,hc.1.1.2,hc.1.2,hc.2,?_,ac.symm⟩;rw[<-au]
     .split at h
      .rename_i hc;simp only[Lw,LR] at hc
       cases hs:jO T 100 (k+5) with
       | none=>rw[hs] at h;cases h
       | some s=>
        rw[hs] at h;simp only[Option.bind_some] at h
        cases hp:ko T f s.2 with
        | none=>rw[hp] at h;cases h
        | some q=>
         rw[hp] at h;injection h with h;injection h with ac au;refine .inr ⟨s.1,s.2,q.2,hc.1.1.1.1,hc.1.1.1.2,hc.1.1.2,hc.1.2,hc.2,rfl,?_,au.symm⟩;rw[<-ac];exact hp
      .cases h
    .cases h
theorem vp{T:List Tok}:∀(f k:Nat) (ls:List aA) (F:Nat),jO T f k=some (ls,F)->k<F
 | 0,_,_,_,h=>by cases h
 | f+1,k,ls,F,h=>by
  simp only[jO] at h;split at h
  .split at h
   .injection h with h;injection h with _ h;omega
   .cases h
  .cases hs:tI T k with
   | none=>rw[hs] at h;cases h
   | some p=>
    rw[hs] at h;simp only[Option.bind_some] at h
    cases bA:jO T f p.2 with
    | none=>rw[bA] at h;cases h
    | some q=>
     rw[bA] at h;injection h with h;injection h with _ h;have ac:=vp f p.2 q.1 q.2 bA;have au:=ys (show tI T k=some (p.1,p.2) from hs);omega
theorem HQ:cj prog 25 157 (.agg #[.string ⟨#[]⟩,.slice none 0 0,.slice none 0 0]) 3 64:=cj.mk' Tryz.underlying25 (by kernel_rfl) rfl ad
theorem Fr.Hq{M M':Nat->Prop}{a b:World}(h:Fr M a b)(hM:∀k,k<a.heap.size->M k->M' k):Fr M' a b:=⟨h.os,h.tape,h.output,h.size,λk ap hn=>h.block k ap λhm=>hn (hM k ap hm)⟩
def EP(g:Nat)(w:World):Nat:=match w.cell? ⟨g,1,none⟩ with|some (.int _ z)=>z.toNat|_=>0
theorem ck.pos{w:World}{g:Nat}{A:L3}{n c:Nat}{deep:Nat}(h:ck w g A n c T k deep):EP g w=k:=by
 unfold EP;rw[h.blk.cell];rfl
namespace Cz
theorem dE{p:Prop}(h:p:=by
 generalize hX:World.setCell _ _ _=X;have bI:=bY.1;have b5:=cO hX;have br:aq X (g+1) 27 #[.slice none 0 0,.slice cE (mn+1) c3,.slice FA fn fc]:=hX▸bY.2.2.aM 1 _;have aQ:=aE br b5 (bI.c8 b5 λb O _=>ad);clear hX bI b5 br bx a5 aT;have y:=aY.on aQ.2.1 λb O=>ad;have bf:=y.pos;have bb:=a3.2.2.2.2.2.2.2.2;have j:=ae y;clear y;go_roundw
 case rel=>
  have cz:Fr (λb=>b=g\/b=g+1) V X:=Fr.Hq (M:=λb=>(b=g\/b=g+1)\/(Value.slice MA mn mc).ownBlock=some b) (Fr.trans (Fr.trans (Fr.trans (Fr.mono a3.2.1 λ_ h=>.inl h) (Fr.mono ak.2 λ_ h=>.inl (.inl h))) (Fr.mono bY.2.1 λ_ h=>.inr h)) (Fr.mono aQ.2.1 λ_ h=>.inl (.inr h))) λb O hm=>hm.elim id λhm=>absurd (cU.o b hm) ad
  iterate 101 apply Exists.intro
  refine⟨⟨k+3,f2,cE,mn+1,c3,FA,fn,fc,am++[⟨strOf t.text,false,0⟩],bR,aa,aP,j.o,cz,aQ.1,by rw[Lr];exact aQ.2.2,u.2.2.2.2.1,?_,a3.2.2.2.2.2.1,?_,a3.2.2.2.2.2.2.2.1⟩,rfl⟩
  .rw[<-a3.2.2.2.2.1,u.2.2.2.2.2];simp
  .rw[a3.2.2.2.2.2.2.1];simp
 case measure=>rw[bf,bb];have:=j.lt;omega
 ):p:=h
end Cz
open Cz in
theorem zd(s:ByteArray)(b o cap:Nat)(w:World)(ms:List bD)(fs:List aK)(aF:Nat)(h:fx w b o cap s)(hs:s.size<=4000)(hn:(dw s.data.toList).1.length<=4001)(aM:0<(dw s.data.toList).1.length)(he:(dw s.data.toList).2.2=0)(hp:ko (dw s.data.toList).1 aF 0=some (ms,fs))(cf:ms.length<=12)(cg:fs.length<=16) :
  Calls prog 87 #[.slice (some ⟨b,o,none⟩) s.size cap] w λe ab=>∃(MA:L3) (mn mc:Nat) (FA:L3) (fn fc:Nat) (z:Int),e=.returned (.tuple #[.agg #[.slice none 0 0,.slice MA mn mc,.slice FA fn fc],.int .i64 z,.int .i64 0])/\hy ab (fresh w ab) ⟨[],ms,fs⟩ none 0 MA mn FA fn/\mn<=mc/\fn<=fc/\Ext w ab:=by
 obtain⟨R,a8⟩:∃R,R=dw s.data.toList:=⟨_,rfl⟩
 rw[<-a8] at hn aM he hp;obtain⟨T,z,ct⟩:=R;simp only at hn aM he hp;subst he;have H:=cJ h hp cf cg a8;clear h hp cf cg a8;go_enter func87,ntmps87;go_upto_region 1 with(fail);generalize be:World.alloc _ _=W;have aw:=aW be;have cB:=aI be;have ah:=ag aw cB;have c5:=cB.lt;clear be aw cB;go_wp2_with(fail);refine(show Calls prog 117 _ W (kv W (T,z,0)) by rw[H.2.2.2.2];exact yc s b o cap W (H.1.on ah.1) ad).mono ?_;rintro e aS ⟨A,n,c,rfl,aL,e4,b1⟩;have aN:Ext W aS:=Fr.of b1;have ca:n=T.length:=e4.1.symm;have c4:n<=4001:=by rw[ca];exact hn
 have cP:0<n:=by rw[ca];exact aM
 have H1:=aE aN e4 ca;have cr:=aN.size;clear hn aM b1 aN e4 ca aL;go_upto_region 5 with(fail);generalize hV:World.alloc _ _=V;have bm:=iS hV;have dL:=gG hV;have bC:=gf hV;obtain⟨g,a9⟩:∃g,g=aS.heap.size:=⟨_,rfl⟩
 rw[<-a9] at dL bC ⊢;have bq:ck V g A n c T 0 0:=⟨dL,(H1.2.1.c8 (Fr.ext bm) bm.size).dS (Below.refl _ _) |> λh=>by
  rw[a9];exact H1.2.1.dS (Fr.ext bm),cP,c4⟩
 have ce:=bJ bq bC bm a9;have bu:=bC.lt;have el:W.heap.size<=g:=ad;clear hV bm dL bC bq a9;go_wp2_with(fail);go_loopw [78] (λ_ wr=>∃(k aF:Nat) (MA:L3) (mn mc:Nat) (FA:L3) (fn fc:Nat) (am cD:List bD) (aa aP:List aK),ck wr g A n c T k 0/\Fr (λb=>b=g\/b=g+1) V wr/\aq wr (g+1) 27 #[.slice none 0 0,.slice MA mn mc,.slice FA fn fc]/\lz V.heap.size 136 3 157 3 wr MA mn mc (am.map eD) FA fn fc (aa.map du)/\ko T aF k=some (cD,aP)/\am++cD=ms/\aa++aP=fs/\mn=am.length/\fn=aa.length) (λ_ wr=>4001 - EP g wr)
 case atStart=>exact⟨0,aF,none,0,0,none,0,0,[],ms,[],fs,ce.1,LW,ce.2.1,lz.nil _ _ _ _ _ _,H.2.1,rfl,rfl,rfl,rfl⟩
 case round=>
  obtain⟨k,cn,MA,mn,mc,FA,fn,fc,am,cD,aa,aP,a1,hF,aR,hG,co,ao,an,b3,aB⟩:=hrel;have bH:=a1.lt;have cf:am.length+cD.length<=12:=by have:=H.2.2.1;rw[<-ao,Lm] at this;exact this
  have cg:aa.length+aP.length<=16:=by have:=H.2.2.2.1;rw[<-an,Lm] at this;exact this
  have l:=a1.pos;have a3:=xK a1 hF aR hG ao an b3 aB l;have gr:=hF.size;obtain⟨a0,aj,af⟩:=a1.blk.two;rcases w3 co with⟨cI,cW,c6⟩|⟨cI,t,f2,ht,bA,b6⟩
  .have bZ:=aE cI cW c6;clear cI cW c6 a1 hF aR hG ao an co cf cg b3 aB l;go_wp2_with(fail);refine(pr 5 g A n c T k 0 wr a3.1).mono ?_;rintro e aU ⟨rfl,aZ⟩;rw[bZ.1];have bc:=ae aZ;clear a0 aj af;obtain⟨a0,aj,af⟩:=(a3.1.blk.aj aZ).two;obtain⟨bx,a5,aT⟩:=(a3.2.2.1.aj aZ).two;have P:Ext W aU:=Fr.low (M:=λb=>b=g\/b=g+1) (Fr.trans (Fr.mono (H1.1.trans ce.2.2.1) λ_ h=>h.elim) (Fr.trans a3.2.1 (Fr.mono aZ λ_ h=>h.elim))) λb O=>ad;have Q:=ah.2.aj P;have r:=ag Q (ah.1.trans P);obtain⟨bl,aA,aO⟩:=Q.two;have bN:=aZ.size;clear aZ P Q;go_wp2_with(fail);generalize hX:World.setCell _ _ _=Z;obtain⟨bk,bd,bg⟩:=bw (w:=w) [.slice none 0 0,.slice MA mn mc,.slice FA fn fc] (by rfl) r.1 r.2 ad hX;have bh:=ag bd bg;clear hX bd bg bl aA aO a0 aj af bx a5 aT;obtain⟨bl,aA,aO⟩:=bk.two;refine LU (v:=.tuple #[.agg #[.slice none 0 0,.slice MA mn mc,.slice FA fn fc],.int .i64 z,.int .i64 0]) (by simp[results,Tryz.results87,go_sem,bl]) rfl ?_;have hm:am=ms:=by have:=a3.2.2.2.2.1;rw[bZ.2.1,LM] at this;exact this
   have J:aa=fs:=by have:=a3.2.2.2.2.2.1;rw[bZ.2.2,LM] at this;exact this
   have L:=a3.2.2.2.1.aj bc.o;have cR:=bh.2.size;have bG:=L.c8 bh.2 λb O _=>by have:=ce.2.2.1.size;omega
   rw[hm,J] at bG;have dm:=ce.2.2.1.size;exact⟨MA,mn,mc,FA,fn,fc,z,rfl,⟨Sl.bR _,bG.one.sl (λb ac au=>⟨by have:=au.1;omega,ac⟩) (λb ac au=>⟨ad,ac⟩),bG.two.sl (λb ac au=>⟨by have:=au.1;omega,ac⟩) (λb ac au=>⟨ad,ac⟩)⟩,bG.one.cap.1,bG.two.cap.1,bh.1⟩
  .rcases b6 with⟨bR,de,cC,bz,cq,cZ,bi⟩|⟨ls,bS,bQ,de,cC,bz,cq,cZ,bi,ei,b7⟩
   ·
    have bX:T.length<=n:=Nat.le_of_eq H1.2.2.symm;have bo:cD.length=bR.length+1:=by rw[bi];rfl
    have cc:mn<=11:=ad;have ch:((mn:Int) == 12)=false:=by simp;omega
    have ez:k+3<n:=ad;have bV:=ae cI;have S:=aE de (show cA [118,97,114] T k=false from gx de (by decide)) (show cA [102,117,110,99] T k=false from gx de (by decide));have u:=cH ht bA cC bz cZ bi;clear a1 hF aR hG ao an co b3 aB l cI de cC bz cq cZ bi ht bA bo cf cg;have a7:g+1≠g:=ad;go_wp2_with(fail);refine(pr 5 g A n c T k 0 wr a3.1).mono ?_;rintro e v0 ⟨rfl,aZ⟩;rw[bV.o];have a2:=ag (a3.1.aj aZ) (aZ.mono (M':=λb=>b=g) λ_ h=>h.elim);clear aZ a0 aj af;go_wp2_with(fail);refine(show Calls prog 119 #[.pointer (some ⟨g,0,none⟩),.string ⟨#[118,97,114]⟩] v0 _ from lO [118,97,114] g A n c T (k) 0 v0 a2.1).mono ?_;rintro e v1 ⟨rfl,aw⟩;rw[S.2.1];have e6:=ag (a2.1.aj aw) (a2.2.trans (aw.mono (M':=λb=>b=g) λ_ h=>h.elim));clear aw;go_wp2_with(fail);refine(show Calls prog 119 #[.pointer (some ⟨g,0,none⟩),.string ⟨#[109,117,116,101,120]⟩] v1 _ from lO [109,117,116,101,120] g A n c T (k) 0 v1 e6.1).mono ?_;rintro e v2 ⟨rfl,aw⟩;rw[S.1];have bE:=ag (e6.1.aj aw) (e6.2.trans (aw.mono (M':=λb=>b=g) λ_ h=>h.elim));clear aw;go_wp2_with(fail);refine(show Calls prog 119 #[.pointer (some ⟨g,0,none⟩),.string ⟨#[102,117,110,99]⟩] v2 _ from lO [102,117,110,99] g A n c T (k) 0 v2 bE.1).mono ?_;rintro e bt ⟨rfl,aw⟩;rw[S.2.2];have aJ:=ag (bE.1.aj aw) (bE.2.trans (aw.mono (M':=λb=>b=g) λ_ h=>h.elim));clear aw;obtain⟨bx,a5,aT⟩:=(a3.2.2.1.on aJ.2 ad).two;go_wp2_with(fail)
    refine(show Calls prog 121 #[.pointer (some ⟨g,0,none⟩),.string ⟨#[118,97,114]⟩] bt _ from dB [118,97,114] g A n c T (k) 0 bt aJ.1 false S.2.1 (λh=>by cases h)).mono ?_;rintro e v4 ⟨rfl,a1,hF⟩;have bn:=ag (show ck v4 g A n c T (k) 0 from by simpa using a1) (aJ.2.trans hF);clear a1 hF;clear bx a5 aT;go_wp2_with(fail);refine(show Calls prog 121 #[.pointer (some ⟨g,0,none⟩),.string ⟨#[109,117,116,101,120]⟩] v4 _ from dB [109,117,116,101,120] g A n c T (k) 0 v4 bn.1 true S.1 (λ_=>ad)).mono ?_;rintro e bP ⟨rfl,a1,hF⟩;have bp:=ag (show ck bP g A n c T (k+1) 0 from by simpa using a1) (bn.2.trans hF);clear a1 hF;obtain⟨bx,a5,aT⟩:=(a3.2.2.1.on bp.2 ad).two;go_upto_region 13 with(fail);refine eC (λb=>b=g) [(0,3),(1,0),(2,3),(3,1),(4,1),(5,2),(6,3),(7,2)] ?_;refine pf ?_;refine oQ ?_;refine pf ?_;refine aG rfl (λK hK=>?_);go_simp;refine(ET g A n c T (k+1) 0 bP.drew t (bp.1.aj (Fr.refl _ bP).drew) u.1 u.2.1 u.2.2.1 u.2.2.2.1 ez).mono ?_;rintro e v6 ⟨rfl,a1,hF⟩;have ak:=ag (show ck v6 g A n c T (k+3) 0 from a1) (bp.2.trans (Fr.aF hF));refine dq hK (hF) ?_;clear hK K;clear a1 hF bx a5 aT;refine rz ?_;have bW:=a3.2.2.2.1.c8 ak.2 λb O _=>ad;have bv:=ak.2.size;have aX:=ae bW;have cF:=a3.2.2.1.on ak.2 a7;have cp:=ae cF;clear bW cF;refine ax rfl (λK hK=>?_);rw[if_pos (by rfl)];refine q9 l0 (.tmp 92) (.tmp 95) (by rfl) aX.one (d:=eD ⟨strOf t.text,false,0⟩) (cs:=#[.string (strOf t.text),.bool false,.int .i64 0]) (fh.2 rfl) (by rfl) (by rfl) (by rfl) ad ad ad ?_
    intro cE c3 cj cb g2 cT da;have bB:∀b,(Value.slice MA mn mc).ownBlock=some b->V.heap.size<=b:=λb O=>(aX.one.lt O).1;have bY:=aE (aX.grow cb g2 cT) g2 (cp.on g2 λO=>by have:=bB _ O;omega);have aY:=ae (ak.1.on g2 λb O=>by have:=bB b O;omega);have cU:=ae bB;obtain⟨bx,a5,aT⟩:=bY.2.2.two;clear cb g2 cT da bB;refine dP hK ?_;clear hK K;refine pf ?_;exact eT
   ·
    have bX:T.length<=n:=Nat.le_of_eq H1.2.2.symm;have bo:aP.length=bQ.length+1:=by rw[b7];rfl
    have cx:fn<=15:=ad;have cd:((fn:Int) == 16)=false:=by simp;omega
    have av:k+5<n:=ad;have b0:=vp _ _ _ _ bi;have bV:=ae cI;have S:=bJ de (show cA [118,97,114] T k=false from gx de (by decide)) (show cA [109,117,116,101,120] T k=false from gx de (by decide)) (show cA [114,109,117,116,101,120] T k=false from gx de (by decide));have u:=pH ht bA cC bz cq bi ei b7;clear a1 hF aR hG ao an co b3 aB l cI de cC bz cq cZ bi ei b7 ht bA bo cf cg;have a7:g+1≠g:=ad;go_wp2_with(fail);refine(pr 5 g A n c T k 0 wr a3.1).mono ?_;rintro e v0 ⟨rfl,aZ⟩;rw[bV.o];have a2:=ag (a3.1.aj aZ) (aZ.mono (M':=λb=>b=g) λ_ h=>h.elim);clear aZ a0 aj af;go_wp2_with(fail);refine(show Calls prog 119 #[.pointer (some ⟨g,0,none⟩),.string ⟨#[118,97,114]⟩] v0 _ from lO [118,97,114] g A n c T (k) 0 v0 a2.1).mono ?_;rintro e v1 ⟨rfl,aw⟩;rw[S.2.1];have e6:=ag (a2.1.aj aw) (a2.2.trans (aw.mono (M':=λb=>b=g) λ_ h=>h.elim));clear aw;go_wp2_with(fail);refine(show Calls prog 119 #[.pointer (some ⟨g,0,none⟩),.string ⟨#[109,117,116,101,120]⟩] v1 _ from lO [109,117,116,101,120] g A n c T (k) 0 v1 e6.1).mono ?_;rintro e v2 ⟨rfl,aw⟩;rw[S.2.2.1];have bE:=ag (e6.1.aj aw) (e6.2.trans (aw.mono (M':=λb=>b=g) λ_ h=>h.elim));clear aw;go_wp2_with(fail);refine(show Calls prog 119 #[.pointer (some ⟨g,0,none⟩),.string ⟨#[114,109,117,116,101,120]⟩] v2 _ from lO [114,109,117,116,101,120] g A n c T (k) 0 v2 bE.1).mono ?_;rintro e bt ⟨rfl,aw⟩;rw[S.2.2.2];have aJ:=ag (bE.1.aj aw) (bE.2.trans (aw.mono (M':=λb=>b=g) λ_ h=>h.elim));clear aw;go_wp2_with(fail)
    refine(show Calls prog 119 #[.pointer (some ⟨g,0,none⟩),.string ⟨#[102,117,110,99]⟩] bt _ from lO [102,117,110,99] g A n c T (k) 0 bt aJ.1).mono ?_;rintro e v4 ⟨rfl,aw⟩;rw[S.1];have bn:=ag (aJ.1.aj aw) (aJ.2.trans (aw.mono (M':=λb=>b=g) λ_ h=>h.elim));clear aw;obtain⟨bx,a5,aT⟩:=(a3.2.2.1.on bn.2 ad).two;go_wp2_with(fail);refine(show Calls prog 121 #[.pointer (some ⟨g,0,none⟩),.string ⟨#[118,97,114]⟩] v4 _ from dB [118,97,114] g A n c T (k) 0 v4 bn.1 false S.2.1 (λh=>by cases h)).mono ?_;rintro e bP ⟨rfl,a1,hF⟩;have bp:=ag (show ck bP g A n c T (k) 0 from by simpa using a1) (bn.2.trans hF);clear a1 hF;clear bx a5 aT;go_wp2_with(fail);refine(show Calls prog 121 #[.pointer (some ⟨g,0,none⟩),.string ⟨#[109,117,116,101,120]⟩] bP _ from dB [109,117,116,101,120] g A n c T (k) 0 bP bp.1 false S.2.2.1 (λh=>by cases h)).mono ?_;rintro e v6 ⟨rfl,a1,hF⟩;have ak:=ag (show ck v6 g A n c T (k) 0 from by simpa using a1) (bp.2.trans hF);clear a1 hF;go_wp2_with(fail);refine(show Calls prog 121 #[.pointer (some ⟨g,0,none⟩),.string ⟨#[114,109,117,116,101,120]⟩] v6 _ from dB [114,109,117,116,101,120] g A n c T (k) 0 v6 ak.1 false S.2.2.2 (λh=>by cases h)).mono ?_;rintro e cj ⟨rfl,a1,hF⟩;have b8:=ag (show ck cj g A n c T (k) 0 from by simpa using a1) (ak.2.trans hF);clear a1 hF;go_wp2_with(fail)
    refine(show Calls prog 121 #[.pointer (some ⟨g,0,none⟩),.string ⟨#[102,117,110,99]⟩] cj _ from dB [102,117,110,99] g A n c T (k) 0 cj b8.1 true S.1 (λ_=>ad)).mono ?_;rintro e ba ⟨rfl,a1,hF⟩;have b9:=ag (show ck ba g A n c T (k+1) 0 from by simpa using a1) (b8.2.trans hF);clear a1 hF;go_wp2_with(fail);refine(pt g A n c T (k+1) 0 ba t b9.1 u.1 u.2.1 ad).mono ?_;rintro e aH ⟨rfl,a1,hF⟩;have bU:=ag (show ck aH g A n c T (k+2) 0 from a1) (b9.2.trans hF);have cu:=bU.2.size;clear a1 hF;go_upto_region 18 with(fail);generalize hX:World.alloc _ _=Z;have bd:=aW hX;have m:=aI hX;have a4:=aE (bU.1.aj bd) (bU.2.trans (bd.mono (M':=λb=>b=g) λ_ h=>h.elim)) m;have hR:g<aH.heap.size:=bU.1.blk.lt;clear hX bd m;go_wp2_with(fail);refine(ze g A n c T (k+2) 0 Z a4.1 u.2.2.1 u.2.2.2.1 ad).mono ?_;rintro e v11 ⟨rfl,a1,hF⟩;have m:=a4.2.2.on hF ad;have az:=aE (show ck v11 g A n c T (k+4) 0 from a1) (a4.2.1.trans hF) m;obtain⟨b2,ai,N⟩:=m.two;clear a1 hF m;go_upto_region 19 with(fail);generalize hX:World.setCell _ _ _=Y;have ar:=cO hX;have m:aq Y aH.heap.size 157 #[.string (strOf t.text),.slice none 0 0,.slice none 0 0]:=hX▸az.2.2.aM 1 (.slice none 0 0);have a6:=aE (az.1.on ar λb O=>ad) (az.2.1.eR (ar.below az.2.1.size λk ap h=>ad)) m;have bO:aH.heap.size<Y.heap.size:=m.lt;clear hX ar m b2 ai N;go_wp2_with(fail);refine(ES g A n c T (k+4) 0 Y 100 ls bS a6.1 ad u.2.2.2.2.1 ad u.2.2.2.2.2.1).mono ?_;rintro e ay ⟨bM,on,b4,rfl,bF,bL,a1,hF⟩;have m:=a6.2.2.on hF ad
    have U:=cJ a1 (a6.2.1.trans hF) m bF bL;have ci:=hF.size;obtain⟨b2,ai,N⟩:=m.two;clear a1 hF m bF bL;go_upto_region 20 with(fail);generalize hX:World.setCell _ _ _=hl;have ar:=cO hX;have m:aq hl aH.heap.size 157 #[.string (strOf t.text),.slice none 0 0,.slice bM on b4]:=hX▸U.2.2.1.aM 2 (.slice bM on b4);have al:Fr (λb=>b=g) wr hl:=U.2.1.eR (ar.below U.2.1.size λk ap h=>ad);have bW:=a3.2.2.2.1.c8 al λb O _=>ad;have bv:=al.size;have cl:=ar.size;have cm:Sl hl (fresh Y ay) bM on (ls.map bj):=U.2.2.2.2.al λb O=>ar.block b O.2 (aD O.1);have aV:∀b,(Value.slice MA mn mc).ownBlock=some b->b<wr.heap.size:=λb O=>(a3.2.2.2.1.one.lt O).2;have bK:∀b,(Value.slice FA fn fc).ownBlock=some b->b<wr.heap.size:=λb O=>(a3.2.2.2.1.two.lt O).2;have bs:(du ⟨strOf t.text,[],eM ls⟩).rep hl (lL (λb=>V.heap.size<=b/\(Value.slice MA mn mc).ownBlock≠some b) hl (.slice FA fn fc)) [.string (strOf t.text),.slice none 0 0,.slice bM on b4]:=
     k3.2 ⟨none,0,0,bM,on,b4,rfl,Lk _,U.2.2.2.1,Sl.bR _,by rw[fI];exact cm.mono λb O=>⟨⟨by have:=O.1;omega,λh=>by have:=aV b h;have:=O.1;omega⟩,by have:=O.2;omega,λh=>by have:=bK b h;have:=O.1;omega⟩⟩
    have aX:=ag bW bs;have cF:=a3.2.2.1.on al a7;have cp:=ae cF;have ak:=ag (U.1.on ar λb O=>ad) al;clear hX ar al bW cm aV bK bs b2 ai N;obtain⟨b2,ai,N⟩:=m.two;obtain⟨bx,a5,aT⟩:=cF.two;clear m cF;go_wp2_with(at_builtin;refine bT HQ rfl (.tmp 121) (.tmp 123) rfl aX.1.two (d:=du ⟨strOf t.text,[],eM ls⟩) (cs:=#[.string (strOf t.text),.slice none 0 0,.slice bM on b4]) aX.2 rfl rfl rfl ad ad ad ?_;intro cE c3 cj cb g2 cT da;have bB:∀b,(Value.slice FA fn fc).ownBlock=some b->V.heap.size<=b:=λb O=>(aX.1.two.lt O).1;have bY:=aE ((aX.1.swap.grow cb g2 cT).swap) g2 (cp.on g2 λO=>by have:=bB _ O;omega);have aY:=ae (ak.1.on g2 λb O=>by have:=bB b O;omega);have cU:=ae bB;clear bx a5 aT b2 ai N;obtain⟨bx,a5,aT⟩:=bY.2.2.two;clear cb g2 cT da bB);generalize hX:World.setCell _ _ _=X;have bI:=bY.1;have b5:=cO hX;have br:aq X (g+1) 27 #[.slice none 0 0,.slice MA mn mc,.slice cE (fn+1) c3]:=hX▸bY.2.2.aM 2 _;have aQ:=aE br b5 (bI.c8 b5 λb O _=>ad);clear hX bI b5 br bx a5 aT;have y:=aY.on aQ.2.1 λb O=>ad;have bf:=y.pos;have bb:=a3.2.2.2.2.2.2.2.2;have j:=ae y;clear y;go_roundw
    case rel=>
     have cz:Fr (λb=>b=g\/b=g+1) V X:=Fr.Hq (M:=λb=>(b=g\/b=g+1)\/(Value.slice FA fn fc).ownBlock=some b) (Fr.trans (Fr.trans (Fr.trans (Fr.mono a3.2.1 λ_ h=>.inl h) (Fr.mono ak.2 λ_ h=>.inl (.inl h))) (Fr.mono bY.2.1 λ_ h=>.inr h)) (Fr.mono aQ.2.1 λ_ h=>.inl (.inr h))) λb O hm=>hm.elim id λhm=>absurd (cU.o b hm) ad;refine⟨bS,f2,MA,mn,mc,cE,fn+1,c3,am,cD,aa++[⟨strOf t.text,[],eM ls⟩],bQ,j.o,cz,aQ.1,by rw[Lr];exact aQ.2.2,u.2.2.2.2.2.2.1,a3.2.2.2.2.1,?_,a3.2.2.2.2.2.2.1,?_⟩
     .rw[<-a3.2.2.2.2.2.1,u.2.2.2.2.2.2.2];simp
     .rw[a3.2.2.2.2.2.2.2.1];simp
    case measure=>rw[bf,bb];have:=j.lt;omega
end Go.Proofs.YtkhnkojkplbioaaGreat
