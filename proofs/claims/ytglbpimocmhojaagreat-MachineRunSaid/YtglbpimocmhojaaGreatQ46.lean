/- Part 46 of the proof. No condition of its own. -/
import Derived.Test.YtglbpimocmhojaaGreatQ37
import Derived.Test.YtglbpimocmhojaaGreatQ45
namespace Go.Proofs.YtglbpimocmhojaaGreat
open Go.RowKit Go.Proofs.Tryz
set_option maxRecDepth 1000000
set_option maxHeartbeats 25600000
set_option linter.unusedVariables false
variable{T:List Tok}{k:Nat}
def eH:List aA->an
 | []=>.nil
 | .set v n e::l=>.set v n e (eH l)
 | .call g n a1::l=>.call g n a1 (eH l)
 | .lock u r::l=>.lock u r (eH l)
 | .ite e th el::l=>.ite e th el (eH l)
 | .gv e th::l=>.gv e th (eH l)
 | .ret::l=>.ret (eH l)
theorem fF:∀l:List aA,c4 (eH l)=l.map bg
 | []=>rfl
 | .set v n e::l=>by simp only[eH,c4,KJ,bg,fF l]
 | .call g n a1::l=>by simp only[eH,c4,KJ,bg,fF l]
 | .lock u r::l=>by simp only[eH,c4,KJ,bg,fF l]
 | .ite e th el::l=>by simp only[eH,c4,KJ,bg,fF l]
 | .gv e th::l=>by simp only[eH,c4,KJ,bg,fF l]
 | .ret::l=>by simp only[eH,c4,KJ,bg,fF l]
def kh(T:List Tok):Nat->Nat->Option (List bG×List aJ)
 | 0,_=>none
 | f+1,k=>if s4 5 T k then some ([],[]) else match T[k+1]? with
  | none=>none
  | some t=>if t.kind=1 then
    if cz [109,117,116,101,120] T k && !cz [91] T (k+2) && cz [59] T (k+2) && decide (k+3<T.length) then (kh T f (k+3)).map λq=>(⟨strOf t.text,false,0⟩::q.1,q.2)
    else if cz [102,117,110,99] T k && cz [40] T (k+2) && cz [41] T (k+3) && cz [123] T (k+4) && decide (k+5<T.length) then
     (jG T 100 (k+5)).bind λs=>(kh T f s.2).map λq=>(q.1,⟨strOf t.text,[],eH s.1⟩::q.2)
    else none
   else none
theorem wk{f:Nat}{ms:List bG}{fs:List aJ}(h:kh T f k=some (ms,fs)):(s4 5 T k=true/\ms=[]/\fs=[])\/(s4 5 T k=false/\∃(t:Tok) (f2:Nat),T[k+1]?=some t/\t.kind=1/\
  ((∃cI,cz [109,117,116,101,120] T k=true/\cz [91] T (k+2)=false/\cz [59] T (k+2)=true/\k+3<T.length/\kh T f2 (k+3)=some (cI,fs)/\ms=⟨strOf t.text,false,0⟩::cI)\/(∃ls bO aY,cz [102,117,110,99] T k=true/\cz [40] T (k+2)=true/\cz [41] T (k+3)=true/\cz [123] T (k+4)=true/\k+5<T.length/\jG T 100 (k+5)=some (ls,bO)/\kh T f2 bO=some (ms,aY)/\fs=⟨strOf t.text,[],eH ls⟩::aY))):=by
 cases f with
 | zero=>cases h
 | succ f=>
  unfold kh at h
  cases cF:s4 5 T k with
  | true=>
   rw[cF,if_pos rfl] at h;injection h with h;injection h with ac au
   exact .inl ⟨rfl,ac.symm,au.symm⟩
  | false=>
   rw[cF,if_neg (by simp)] at h;refine .inr ⟨rfl,?_⟩
   cases ht:T[k+1]? with
   | none=>rw[ht] at h;cases h
   | some t=>
    rw[ht] at h;simp only at h;split at h
    .rename_i bv;refine⟨t,f,rfl,bv,?_⟩;split at h
     .rename_i hc;simp only[KP,Bool.not_eq_true',Li] at hc
      cases hp:kh T f (k+3) with
      | none=>rw[hp] at h;cases h
      | some q=>
       rw[hp] at h;injection h with h;injection h with ac au;refine .inl ⟨q.1,hc.1.1.1,hc.1.1.2,hc.1.2,hc.2,?_,ac.symm⟩;rw[<-au]
     .split at h
      .rename_i hc;simp only[KP,Li] at hc
       cases hs:jG T 100 (k+5) with
       | none=>rw[hs] at h;cases h
       | some s=>
        rw[hs] at h;simp only[Option.bind_some] at h
        cases hp:kh T f s.2 with
        | none=>rw[hp] at h;cases h
        | some q=>
         rw[hp] at h;injection h with h;injection h with ac au;refine .inr ⟨s.1,s.2,q.2,hc.1.1.1.1,hc.1.1.1.2,hc.1.1.2,hc.1.2,hc.2,rfl,?_,au.symm⟩;rw[<-ac];exact hp
      .cases h
    .cases h
theorem uE{T:List Tok}:∀(f k:Nat) (ls:List aA) (F:Nat),jG T f k=some (ls,F)->k<F
 | 0,_,_,_,h=>by cases h
 | f+1,k,ls,F,h=>by
  simp only[jG] at h;split at h
  .split at h
   .injection h with h;injection h with _ h;omega
   .cases h
  .cases hs:s0 T k with
   | none=>rw[hs] at h;cases h
   | some p=>
    rw[hs] at h;simp only[Option.bind_some] at h
    cases bv:jG T f p.2 with
    | none=>rw[bv] at h;cases h
    | some q=>
     rw[bv] at h;injection h with h;injection h with _ h;have ac:=uE f p.2 q.1 q.2 bv;have au:=xO (show s0 T k=some (p.1,p.2) from hs);omega
theorem G4:ch prog 25 136 (.agg #[.string ⟨#[]⟩,.slice none 0 0,.slice none 0 0]) 3 64:=ch.mk' Tryz.underlying25 (by kernel_rfl) rfl ad
theorem Fr.GG{M M':Nat->Prop}{a b:World}(h:Fr M a b)(hM:∀k,k<a.heap.size->M k->M' k):Fr M' a b:=⟨h.os,h.tape,h.output,h.size,λk ap hn=>h.block k ap λhm=>hn (hM k ap hm)⟩
def D1(g:Nat)(w:World):Nat:=match w.cell? ⟨g,1,none⟩ with|some (.int _ z)=>z.toNat|_=>0
theorem cj.pos{w:World}{g:Nat}{A:Lp}{n c:Nat}{deep:Nat}(h:cj w g A n c T k deep):D1 g w=k:=by
 unfold D1;rw[h.blk.cell];rfl
namespace BP
theorem dB{p:Prop}(h:p:=by
 generalize hX:World.setCell _ _ _=X;have cB:=b4.1;have b8:=cJ hX;have bz:aq X (g+1) 27 #[.slice none 0 0,.slice cC (mn+1) c3,.slice FA fn fc]:=hX▸b4.2.2.aM 1 _;have aQ:=aD bz b8 (cB.c8 b8 λb O _=>ad);clear hX cB b8 bz bs aV bu;have y:=a1.on aQ.2.1 λb O=>ad;have be:=y.pos;have bc:=aW.2.2.2.2.2.2.2.2;have u:=ae y;clear y;go_roundw
 case rel=>
  have b5:Fr (λb=>b=g\/b=g+1) V X:=Fr.GG (M:=λb=>(b=g\/b=g+1)\/(Value.slice MA mn mc).ownBlock=some b) (Fr.trans (Fr.trans (Fr.trans (Fr.mono aW.2.1 λ_ h=>.inl h) (Fr.mono an.2 λ_ h=>.inl (.inl h))) (Fr.mono b4.2.1 λ_ h=>.inr h)) (Fr.mono aQ.2.1 λ_ h=>.inl (.inr h))) λb O hm=>hm.elim id λhm=>absurd (cW.o b hm) ad
  iterate 101 apply Exists.intro
  refine⟨⟨k+3,f2,cC,mn+1,c3,FA,fn,fc,am++[⟨strOf t.text,false,0⟩],bV,ak,aY,u.o,b5,aQ.1,by rw[KK];exact aQ.2.2,j.2.2.2.2.1,?_,aW.2.2.2.2.2.1,?_,aW.2.2.2.2.2.2.2.1⟩,rfl⟩
  .rw[<-aW.2.2.2.2.1,j.2.2.2.2.2];simp
  .rw[aW.2.2.2.2.2.2.1];simp
 case measure=>rw[be,bc];have:=u.lt;omega
 ):p:=h
end BP
open BP in
theorem yv(s:ByteArray)(b o cap:Nat)(w:World)(ms:List bG)(fs:List aJ)(aG:Nat)(h:ft w b o cap s)(hs:s.size<=4000)(hn:(dt s.data.toList).1.length<=4001)(aM:0<(dt s.data.toList).1.length)(he:(dt s.data.toList).2.2=0)(hp:kh (dt s.data.toList).1 aG 0=some (ms,fs))(ce:ms.length<=12)(cd:fs.length<=16) :
  Calls prog 90 #[.slice (some ⟨b,o,none⟩) s.size cap] w λe ab=>∃(MA:Lp) (mn mc:Nat) (FA:Lp) (fn fc:Nat) (z:Int),e=.returned (.tuple #[.agg #[.slice none 0 0,.slice MA mn mc,.slice FA fn fc],.int .i64 z,.int .i64 0])/\hk ab (fresh w ab) ⟨[],ms,fs⟩ none 0 MA mn FA fn/\mn<=mc/\fn<=fc/\Ext w ab:=by
 obtain⟨R,bb⟩:∃R,R=dt s.data.toList:=⟨_,rfl⟩
 rw[<-bb] at hn aM he hp;obtain⟨T,z,ct⟩:=R;simp only at hn aM he hp;subst he;have H:=cK h hp ce cd bb;clear h hp ce cd bb;go_enter func90,ntmps90;go_upto_region 1 with(fail);generalize ba:World.alloc _ _=W;have aw:=aX ba;have cA:=aK ba;have ag:=ah aw cA;have cZ:=cA.lt;clear ba aw cA;go_wp2_with(fail);refine(show Calls prog 102 _ W (ko W (T,z,0)) by rw[H.2.2.2.2];exact xy s b o cap W (H.1.on ag.1) ad).mono ?_;rintro e aS ⟨A,n,c,rfl,U,bZ,bS⟩;have aN:Ext W aS:=Fr.of bS;have bH:n=T.length:=bZ.1.symm;have cY:n<=4001:=by rw[bH];exact hn
 have cG:0<n:=by rw[bH];exact aM
 have H1:=aD aN bZ bH;have cp:=aN.size;clear hn aM bS aN bZ bH U;go_upto_region 5 with(fail);generalize hV:World.alloc _ _=V;have bm:=iN hV;have b0:=gC hV;have bF:=ga hV;obtain⟨g,a2⟩:∃g,g=aS.heap.size:=⟨_,rfl⟩
 rw[<-a2] at b0 bF ⊢;have bp:cj V g A n c T 0 0:=⟨b0,(H1.2.1.c8 (Fr.ext bm) bm.size).ez (Below.refl _ _) |> λh=>by
  rw[a2];exact H1.2.1.ez (Fr.ext bm),cG,cY⟩
 have cc:=bL bp bF bm a2;have bt:=bF.lt;have en:W.heap.size<=g:=ad;clear hV bm b0 bF bp a2;go_wp2_with(fail);go_loopw [78] (λ_ wr=>∃(k aG:Nat) (MA:Lp) (mn mc:Nat) (FA:Lp) (fn fc:Nat) (am cI:List bG) (ak aY:List aJ),cj wr g A n c T k 0/\Fr (λb=>b=g\/b=g+1) V wr/\aq wr (g+1) 27 #[.slice none 0 0,.slice MA mn mc,.slice FA fn fc]/\la V.heap.size 129 3 136 3 wr MA mn mc (am.map ey) FA fn fc (ak.map dr)/\kh T aG k=some (cI,aY)/\am++cI=ms/\ak++aY=fs/\mn=am.length/\fn=ak.length) (λ_ wr=>4001 - D1 g wr)
 case atStart=>exact⟨0,aG,none,0,0,none,0,0,[],ms,[],fs,cc.1,Ll,cc.2.1,la.nil _ _ _ _ _ _,H.2.1,rfl,rfl,rfl,rfl⟩
 case round=>
  obtain⟨k,cq,MA,mn,mc,FA,fn,fc,am,cI,ak,aY,aZ,hF,aR,hG,cg,az,av,dH,bw⟩:=hrel;have cm:=aZ.lt;have ce:am.length+cI.length<=12:=by have:=H.2.2.1;rw[<-az,KF] at this;exact this
  have cd:ak.length+aY.length<=16:=by have:=H.2.2.2.1;rw[<-av,KF] at this;exact this
  have l:=aZ.pos;have aW:=w6 aZ hF aR hG az av dH bw l;have ds:=hF.size;obtain⟨a0,ai,af⟩:=aZ.blk.two;rcases wk cg with⟨cF,cV,c4⟩|⟨cF,t,f2,ht,bv,b7⟩
  .have bU:=aD cF cV c4;clear cF cV c4 aZ hF aR hG az av cg ce cd dH bw l;go_wp2_with(fail);refine(oN 5 g A n c T k 0 wr aW.1).mono ?_;rintro e aT ⟨rfl,a3⟩;rw[bU.1];have bJ:=ae a3;clear a0 ai af;obtain⟨a0,ai,af⟩:=(aW.1.blk.ai a3).two;obtain⟨bs,aV,bu⟩:=(aW.2.2.1.ai a3).two;have P:Ext W aT:=Fr.low (M:=λb=>b=g\/b=g+1) (Fr.trans (Fr.mono (H1.1.trans cc.2.2.1) λ_ h=>h.elim) (Fr.trans aW.2.1 (Fr.mono a3 λ_ h=>h.elim))) λb O=>ad;have Q:=ag.2.ai P;have r:=ah Q (ag.1.trans P);obtain⟨bl,aA,aO⟩:=Q.two;have bN:=a3.size;clear a3 P Q;go_wp2_with(fail);generalize hX:World.setCell _ _ _=Z;obtain⟨bh,a9,bd⟩:=bA (w:=w) [.slice none 0 0,.slice MA mn mc,.slice FA fn fc] (by rfl) r.1 r.2 ad hX;have bf:=ah a9 bd;clear hX a9 bd bl aA aO a0 ai af bs aV bu;obtain⟨bl,aA,aO⟩:=bh.two;refine Lk (v:=.tuple #[.agg #[.slice none 0 0,.slice MA mn mc,.slice FA fn fc],.int .i64 z,.int .i64 0]) (by simp[results,Tryz.results90,go_sem,bl]) rfl ?_;have hm:am=ms:=by have:=aW.2.2.2.2.1;rw[bU.2.1,Ld] at this;exact this
   have J:ak=fs:=by have:=aW.2.2.2.2.2.1;rw[bU.2.2,Ld] at this;exact this
   have L:=aW.2.2.2.1.ai bJ.o;have cQ:=bf.2.size;have dN:=L.c8 bf.2 λb O _=>by have:=cc.2.2.1.size;omega
   rw[hm,J] at dN;have dk:=cc.2.2.1.size;exact⟨MA,mn,mc,FA,fn,fc,z,rfl,⟨Sl.bN _,dN.one.sl (λb ac au=>⟨by have:=au.1;omega,ac⟩) (λb ac au=>⟨ad,ac⟩),dN.two.sl (λb ac au=>⟨by have:=au.1;omega,ac⟩) (λb ac au=>⟨ad,ac⟩)⟩,dN.one.cap.1,dN.two.cap.1,bf.1⟩
  .rcases b7 with⟨bV,da,bi,cM,bo,cb,b3⟩|⟨ls,bO,bT,da,bi,cM,bo,cb,b3,el,b9⟩
   ·
    have b2:T.length<=n:=Nat.le_of_eq H1.2.2.symm;have bW:cI.length=bV.length+1:=by rw[b3];rfl
    have aU:mn<=11:=ad;have cl:((mn:Int) == 12)=false:=by simp;omega
    have eA:k+3<n:=ad;have b1:=ae cF;have S:=aD da (show cz [118,97,114] T k=false from gu da (by decide)) (show cz [102,117,110,99] T k=false from gu da (by decide));have j:=cS ht bv bi cM cb b3;clear aZ hF aR hG az av cg dH bw l cF da bi cM bo cb b3 ht bv bW ce cd;have a8:g+1≠g:=ad;go_wp2_with(fail);refine(oN 5 g A n c T k 0 wr aW.1).mono ?_;rintro e v0 ⟨rfl,a3⟩;rw[b1.o];have a5:=ah (aW.1.ai a3) (a3.mono (M':=λb=>b=g) λ_ h=>h.elim);clear a3 a0 ai af;go_wp2_with(fail);refine(show Calls prog 112 #[.pointer (some ⟨g,0,none⟩),.string ⟨#[118,97,114]⟩] v0 _ from ly [118,97,114] g A n c T (k) 0 v0 a5.1).mono ?_;rintro e v1 ⟨rfl,aw⟩;rw[S.2.1];have e4:=ah (a5.1.ai aw) (a5.2.trans (aw.mono (M':=λb=>b=g) λ_ h=>h.elim));clear aw;go_wp2_with(fail);refine(show Calls prog 112 #[.pointer (some ⟨g,0,none⟩),.string ⟨#[109,117,116,101,120]⟩] v1 _ from ly [109,117,116,101,120] g A n c T (k) 0 v1 e4.1).mono ?_;rintro e v2 ⟨rfl,aw⟩;rw[S.1];have bC:=ah (e4.1.ai aw) (e4.2.trans (aw.mono (M':=λb=>b=g) λ_ h=>h.elim));clear aw;go_wp2_with(fail);refine(show Calls prog 112 #[.pointer (some ⟨g,0,none⟩),.string ⟨#[102,117,110,99]⟩] v2 _ from ly [102,117,110,99] g A n c T (k) 0 v2 bC.1).mono ?_;rintro e aj ⟨rfl,aw⟩;rw[S.2.2];have aP:=ah (bC.1.ai aw) (bC.2.trans (aw.mono (M':=λb=>b=g) λ_ h=>h.elim));clear aw;obtain⟨bs,aV,bu⟩:=(aW.2.2.1.on aP.2 ad).two;go_wp2_with(fail)
    refine(show Calls prog 114 #[.pointer (some ⟨g,0,none⟩),.string ⟨#[118,97,114]⟩] aj _ from dx [118,97,114] g A n c T (k) 0 aj aP.1 false S.2.1 (λh=>by cases h)).mono ?_;rintro e v4 ⟨rfl,aZ,hF⟩;have bk:=ah (show cj v4 g A n c T (k) 0 from by simpa using aZ) (aP.2.trans hF);clear aZ hF;clear bs aV bu;go_wp2_with(fail);refine(show Calls prog 114 #[.pointer (some ⟨g,0,none⟩),.string ⟨#[109,117,116,101,120]⟩] v4 _ from dx [109,117,116,101,120] g A n c T (k) 0 v4 bk.1 true S.1 (λ_=>ad)).mono ?_;rintro e bj ⟨rfl,aZ,hF⟩;have bn:=ah (show cj bj g A n c T (k+1) 0 from by simpa using aZ) (bk.2.trans hF);clear aZ hF;obtain⟨bs,aV,bu⟩:=(aW.2.2.1.on bn.2 ad).two;go_upto_region 13 with(fail);refine eK (λb=>b=g) [(0,3),(1,0),(2,3),(3,1),(4,1),(5,2),(6,3),(7,2)] ?_;refine pf ?_;refine oq ?_;refine pf ?_;refine aI rfl (λK hK=>?_);go_simp;refine(D4 g A n c T (k+1) 0 bj.drew t (bn.1.ai (Fr.refl _ bj).drew) j.1 j.2.1 j.2.2.1 j.2.2.2.1 eA).mono ?_;rintro e v6 ⟨rfl,aZ,hF⟩;have an:=ah (show cj v6 g A n c T (k+3) 0 from aZ) (bn.2.trans (Fr.aF hF));refine dz hK (hF) ?_;clear hK K;clear aZ hF bs aV bu;refine qV ?_;have bX:=aW.2.2.2.1.c8 an.2 λb O _=>ad;have bE:=an.2.size;have al:=ae bX;have cD:=aW.2.2.1.on an.2 a8;have bI:=ae cD;clear bX cD;refine ax rfl (λK hK=>?_);rw[if_pos (by rfl)];refine qD lM (.tmp 92) (.tmp 95) (by rfl) al.one (d:=ey ⟨strOf t.text,false,0⟩) (cs:=#[.string (strOf t.text),.bool false,.int .i64 0]) (fb.2 rfl) (by rfl) (by rfl) (by rfl) ad ad ad ?_
    intro cC c3 bD ca g2 cT c8;have br:∀b,(Value.slice MA mn mc).ownBlock=some b->V.heap.size<=b:=λb O=>(al.one.lt O).1;have b4:=aD (al.grow ca g2 cT) g2 (bI.on g2 λO=>by have:=br _ O;omega);have a1:=ae (an.1.on g2 λb O=>by have:=br b O;omega);have cW:=ae br;obtain⟨bs,aV,bu⟩:=b4.2.2.two;clear ca g2 cT c8 br;refine dO hK ?_;clear hK K;refine pf ?_;exact eP
   ·
    have b2:T.length<=n:=Nat.le_of_eq H1.2.2.symm;have bW:aY.length=bT.length+1:=by rw[b9];rfl
    have cw:fn<=15:=ad;have ck:((fn:Int) == 16)=false:=by simp;omega
    have aL:k+5<n:=ad;have cN:=uE _ _ _ _ b3;have b1:=ae cF;have S:=bL da (show cz [118,97,114] T k=false from gu da (by decide)) (show cz [109,117,116,101,120] T k=false from gu da (by decide)) (show cz [114,109,117,116,101,120] T k=false from gu da (by decide));have j:=o5 ht bv bi cM bo b3 el b9;clear aZ hF aR hG az av cg dH bw l cF da bi cM bo cb b3 el b9 ht bv bW ce cd;have a8:g+1≠g:=ad;go_wp2_with(fail);refine(oN 5 g A n c T k 0 wr aW.1).mono ?_;rintro e v0 ⟨rfl,a3⟩;rw[b1.o];have a5:=ah (aW.1.ai a3) (a3.mono (M':=λb=>b=g) λ_ h=>h.elim);clear a3 a0 ai af;go_wp2_with(fail);refine(show Calls prog 112 #[.pointer (some ⟨g,0,none⟩),.string ⟨#[118,97,114]⟩] v0 _ from ly [118,97,114] g A n c T (k) 0 v0 a5.1).mono ?_;rintro e v1 ⟨rfl,aw⟩;rw[S.2.1];have e4:=ah (a5.1.ai aw) (a5.2.trans (aw.mono (M':=λb=>b=g) λ_ h=>h.elim));clear aw;go_wp2_with(fail);refine(show Calls prog 112 #[.pointer (some ⟨g,0,none⟩),.string ⟨#[109,117,116,101,120]⟩] v1 _ from ly [109,117,116,101,120] g A n c T (k) 0 v1 e4.1).mono ?_;rintro e v2 ⟨rfl,aw⟩;rw[S.2.2.1];have bC:=ah (e4.1.ai aw) (e4.2.trans (aw.mono (M':=λb=>b=g) λ_ h=>h.elim));clear aw;go_wp2_with(fail);refine(show Calls prog 112 #[.pointer (some ⟨g,0,none⟩),.string ⟨#[114,109,117,116,101,120]⟩] v2 _ from ly [114,109,117,116,101,120] g A n c T (k) 0 v2 bC.1).mono ?_;rintro e aj ⟨rfl,aw⟩;rw[S.2.2.2];have aP:=ah (bC.1.ai aw) (bC.2.trans (aw.mono (M':=λb=>b=g) λ_ h=>h.elim));clear aw;go_wp2_with(fail)
    refine(show Calls prog 112 #[.pointer (some ⟨g,0,none⟩),.string ⟨#[102,117,110,99]⟩] aj _ from ly [102,117,110,99] g A n c T (k) 0 aj aP.1).mono ?_;rintro e v4 ⟨rfl,aw⟩;rw[S.1];have bk:=ah (aP.1.ai aw) (aP.2.trans (aw.mono (M':=λb=>b=g) λ_ h=>h.elim));clear aw;obtain⟨bs,aV,bu⟩:=(aW.2.2.1.on bk.2 ad).two;go_wp2_with(fail);refine(show Calls prog 114 #[.pointer (some ⟨g,0,none⟩),.string ⟨#[118,97,114]⟩] v4 _ from dx [118,97,114] g A n c T (k) 0 v4 bk.1 false S.2.1 (λh=>by cases h)).mono ?_;rintro e bj ⟨rfl,aZ,hF⟩;have bn:=ah (show cj bj g A n c T (k) 0 from by simpa using aZ) (bk.2.trans hF);clear aZ hF;clear bs aV bu;go_wp2_with(fail);refine(show Calls prog 114 #[.pointer (some ⟨g,0,none⟩),.string ⟨#[109,117,116,101,120]⟩] bj _ from dx [109,117,116,101,120] g A n c T (k) 0 bj bn.1 false S.2.2.1 (λh=>by cases h)).mono ?_;rintro e v6 ⟨rfl,aZ,hF⟩;have an:=ah (show cj v6 g A n c T (k) 0 from by simpa using aZ) (bn.2.trans hF);clear aZ hF;go_wp2_with(fail);refine(show Calls prog 114 #[.pointer (some ⟨g,0,none⟩),.string ⟨#[114,109,117,116,101,120]⟩] v6 _ from dx [114,109,117,116,101,120] g A n c T (k) 0 v6 an.1 false S.2.2.2 (λh=>by cases h)).mono ?_;rintro e bD ⟨rfl,aZ,hF⟩;have ch:=ah (show cj bD g A n c T (k) 0 from by simpa using aZ) (an.2.trans hF);clear aZ hF;go_wp2_with(fail)
    refine(show Calls prog 114 #[.pointer (some ⟨g,0,none⟩),.string ⟨#[102,117,110,99]⟩] bD _ from dx [102,117,110,99] g A n c T (k) 0 bD ch.1 true S.1 (λ_=>ad)).mono ?_;rintro e bB ⟨rfl,aZ,hF⟩;have ci:=ah (show cj bB g A n c T (k+1) 0 from by simpa using aZ) (ch.2.trans hF);clear aZ hF;go_wp2_with(fail);refine(oO g A n c T (k+1) 0 bB t ci.1 j.1 j.2.1 ad).mono ?_;rintro e a4 ⟨rfl,aZ,hF⟩;have bY:=ah (show cj a4 g A n c T (k+2) 0 from aZ) (ci.2.trans hF);have cv:=bY.2.size;clear aZ hF;go_upto_region 18 with(fail);generalize hX:World.alloc _ _=Z;have a9:=aX hX;have m:=aK hX;have a6:=aD (bY.1.ai a9) (bY.2.trans (a9.mono (M':=λb=>b=g) λ_ h=>h.elim)) m;have hP:g<a4.heap.size:=bY.1.blk.lt;clear hX a9 m;go_wp2_with(fail);refine(yx g A n c T (k+2) 0 Z a6.1 j.2.2.1 j.2.2.2.1 ad).mono ?_;rintro e v11 ⟨rfl,aZ,hF⟩;have m:=a6.2.2.on hF ad;have aB:=aD (show cj v11 g A n c T (k+4) 0 from aZ) (a6.2.1.trans hF) m;obtain⟨cr,N,aF⟩:=m.two;clear aZ hF m;go_upto_region 19 with(fail);generalize hX:World.setCell _ _ _=Y;have ar:=cJ hX;have m:aq Y a4.heap.size 136 #[.string (strOf t.text),.slice none 0 0,.slice none 0 0]:=hX▸aB.2.2.aM 1 (.slice none 0 0);have a7:=aD (aB.1.on ar λb O=>ad) (aB.2.1.eN (ar.below aB.2.1.size λk ap h=>ad)) m;have bR:a4.heap.size<Y.heap.size:=m.lt;clear hX ar m cr N aF;go_wp2_with(fail);refine(D3 g A n c T (k+4) 0 Y 100 ls bO a7.1 ad j.2.2.2.2.1 ad j.2.2.2.2.2.1).mono ?_;rintro e ay ⟨bq,on,b6,rfl,bM,bQ,aZ,hF⟩;have m:=a7.2.2.on hF ad
    have aa:=cK aZ (a7.2.1.trans hF) m bM bQ;have cn:=hF.size;obtain⟨cr,N,aF⟩:=m.two;clear aZ hF m bM bQ;go_upto_region 20 with(fail);generalize hX:World.setCell _ _ _=hl;have ar:=cJ hX;have m:aq hl a4.heap.size 136 #[.string (strOf t.text),.slice none 0 0,.slice bq on b6]:=hX▸aa.2.2.1.aM 2 (.slice bq on b6);have ao:Fr (λb=>b=g) wr hl:=aa.2.1.eN (ar.below aa.2.1.size λk ap h=>ad);have bX:=aW.2.2.2.1.c8 ao λb O _=>ad;have bE:=ao.size;have co:=ar.size;have cf:Sl hl (fresh Y ay) bq on (ls.map bg):=aa.2.2.2.2.ak λb O=>ar.block b O.2 (aC O.1);have bx:∀b,(Value.slice MA mn mc).ownBlock=some b->b<wr.heap.size:=λb O=>(aW.2.2.2.1.one.lt O).2;have aH:∀b,(Value.slice FA fn fc).ownBlock=some b->b<wr.heap.size:=λb O=>(aW.2.2.2.1.two.lt O).2;have bK:(dr ⟨strOf t.text,[],eH ls⟩).rep hl (lu (λb=>V.heap.size<=b/\(Value.slice MA mn mc).ownBlock≠some b) hl (.slice FA fn fc)) [.string (strOf t.text),.slice none 0 0,.slice bq on b6]:=
     kR.2 ⟨none,0,0,bq,on,b6,rfl,KD _,aa.2.2.2.1,Sl.bN _,by rw[fF];exact cf.mono λb O=>⟨⟨by have:=O.1;omega,λh=>by have:=bx b h;have:=O.1;omega⟩,by have:=O.2;omega,λh=>by have:=aH b h;have:=O.1;omega⟩⟩
    have al:=ah bX bK;have cD:=aW.2.2.1.on ao a8;have bI:=ae cD;have an:=ah (aa.1.on ar λb O=>ad) ao;clear hX ar ao bX cf bx aH bK cr N aF;obtain⟨cr,N,aF⟩:=m.two;obtain⟨bs,aV,bu⟩:=cD.two;clear m cD;go_wp2_with(at_builtin;refine bP G4 rfl (.tmp 121) (.tmp 123) rfl al.1.two (d:=dr ⟨strOf t.text,[],eH ls⟩) (cs:=#[.string (strOf t.text),.slice none 0 0,.slice bq on b6]) al.2 rfl rfl rfl ad ad ad ?_;intro cC c3 bD ca g2 cT c8;have br:∀b,(Value.slice FA fn fc).ownBlock=some b->V.heap.size<=b:=λb O=>(al.1.two.lt O).1;have b4:=aD ((al.1.swap.grow ca g2 cT).swap) g2 (bI.on g2 λO=>by have:=br _ O;omega);have a1:=ae (an.1.on g2 λb O=>by have:=br b O;omega);have cW:=ae br;clear bs aV bu cr N aF;obtain⟨bs,aV,bu⟩:=b4.2.2.two;clear ca g2 cT c8 br);generalize hX:World.setCell _ _ _=X;have cB:=b4.1;have b8:=cJ hX;have bz:aq X (g+1) 27 #[.slice none 0 0,.slice MA mn mc,.slice cC (fn+1) c3]:=hX▸b4.2.2.aM 2 _;have aQ:=aD bz b8 (cB.c8 b8 λb O _=>ad);clear hX cB b8 bz bs aV bu;have y:=a1.on aQ.2.1 λb O=>ad;have be:=y.pos;have bc:=aW.2.2.2.2.2.2.2.2;have u:=ae y;clear y;go_roundw
    case rel=>
     have b5:Fr (λb=>b=g\/b=g+1) V X:=Fr.GG (M:=λb=>(b=g\/b=g+1)\/(Value.slice FA fn fc).ownBlock=some b) (Fr.trans (Fr.trans (Fr.trans (Fr.mono aW.2.1 λ_ h=>.inl h) (Fr.mono an.2 λ_ h=>.inl (.inl h))) (Fr.mono b4.2.1 λ_ h=>.inr h)) (Fr.mono aQ.2.1 λ_ h=>.inl (.inr h))) λb O hm=>hm.elim id λhm=>absurd (cW.o b hm) ad;refine⟨bO,f2,MA,mn,mc,cC,fn+1,c3,am,cI,ak++[⟨strOf t.text,[],eH ls⟩],bT,u.o,b5,aQ.1,by rw[KK];exact aQ.2.2,j.2.2.2.2.2.2.1,aW.2.2.2.2.1,?_,aW.2.2.2.2.2.2.1,?_⟩
     .rw[<-aW.2.2.2.2.2.1,j.2.2.2.2.2.2.2];simp
     .rw[aW.2.2.2.2.2.2.2.1];simp
    case measure=>rw[be,bc];have:=u.lt;omega
end Go.Proofs.YtglbpimocmhojaaGreat
