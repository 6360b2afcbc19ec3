/- Part 40 of the proof. No condition of its own. -/
import Derived.Test.YtnhhdaggkiomoaaGreatQ31
import Derived.Test.YtnhhdaggkiomoaaGreatQ39
namespace Go.Proofs.YtnhhdaggkiomoaaGreat
open Go.RowKit Go.Proofs.Tryz
set_option maxRecDepth 1000000
set_option maxHeartbeats 25600000
set_option linter.unusedVariables false
variable{T:List Tok}{k:Nat}
def eH:List aA→an
 | []=>.nil
 | .set v n e::l=>.set v n e (eH l)
 | .call g n a1::l=>.call g n a1 (eH l)
 | .lock u r::l=>.lock u r (eH l)
 | .ite e th el::l=>.ite e th el (eH l)
 | .gv e th::l=>.gv e th (eH l)
 | .ret::l=>.ret (eH l)
theorem fE:∀l:List aA,c5 (eH l)=l.map bg
 | []=>rfl
 | .set v n e::l=>by simp only[eH,c5,KM,bg,fE l]
 | .call g n a1::l=>by simp only[eH,c5,KM,bg,fE l]
 | .lock u r::l=>by simp only[eH,c5,KM,bg,fE l]
 | .ite e th el::l=>by simp only[eH,c5,KM,bg,fE l]
 | .gv e th::l=>by simp only[eH,c5,KM,bg,fE l]
 | .ret::l=>by simp only[eH,c5,KM,bg,fE l]
def kh(T:List Tok):Nat→Nat→Option (List bI×List aK)
 | 0,_=>none
 | f+1,k=>if s9 5 T k then some ([],[]) else match T[k+1]? with
  | none=>none
  | some t=>if t.kind=1 then
    if cz [109,117,116,101,120] T k && !cz [91] T (k+2) && cz [59] T (k+2) && decide (k+3<T.length) then (kh T f (k+3)).map fun q=>(⟨strOf t.text,false,0⟩::q.1,q.2)
    else if cz [102,117,110,99] T k && cz [40] T (k+2) && cz [41] T (k+3) && cz [123] T (k+4) && decide (k+5<T.length) then
     (jG T 100 (k+5)).bind fun s=>(kh T f s.2).map fun q=>(q.1,⟨strOf t.text,[],eH s.1⟩::q.2)
    else none
   else none
theorem wy{f:Nat}{ms:List bI}{fs:List aK}(h:kh T f k=some (ms,fs)):(s9 5 T k=true∧ms=[]∧fs=[])∨(s9 5 T k=false∧∃(t:Tok) (f2:Nat),T[k+1]?=some t∧t.kind=1∧
  ((∃c7,cz [109,117,116,101,120] T k=true∧cz [91] T (k+2)=false∧cz [59] T (k+2)=true∧k+3<T.length∧kh T f2 (k+3)=some (c7,fs)∧ms=⟨strOf t.text,false,0⟩::c7)∨(∃ls bP a1,cz [102,117,110,99] T k=true∧cz [40] T (k+2)=true∧cz [41] T (k+3)=true∧cz [123] T (k+4)=true∧k+5<T.length∧jG T 100 (k+5)=some (ls,bP)∧kh T f2 bP=some (ms,a1)∧fs=⟨strOf t.text,[],eH ls⟩::a1))):=by
 cases f with
 | zero=>cases h
 | succ f=>
  unfold kh at h
  cases cm:s9 5 T k with
  | true=>
   rw[cm,if_pos rfl] at h;injection h with h;injection h with ac av
   exact .inl ⟨rfl,ac.symm,av.symm⟩
  | false=>
   rw[cm,if_neg (by simp)] at h;refine .inr ⟨rfl,?_⟩
   cases ht:T[k+1]? with
   | none=>rw[ht] at h;cases h
   | some t=>
    rw[ht] at h;simp only at h;split at h
    ·rename_i bK;refine⟨t,f,rfl,bK,?_⟩;split at h
     ·rename_i hc;simp only[KS,Bool.not_eq_true',Ll] at hc
      cases hp:kh T f (k+3) with
      | none=>rw[hp] at h;cases h
      | some q=>
       rw[hp] at h;injection h with h;injection h with ac av;refine .inl ⟨q.1,hc.1.1.1,hc.1.1.2,hc.1.2,hc.2,?_,ac.symm⟩;rw[←av]
     ·split at h
      ·rename_i hc;simp only[KS,Ll] at hc
       cases hs:jG T 100 (k+5) with
       | none=>rw[hs] at h;cases h
       | some s=>
        rw[hs] at h;simp only[Option.bind_some] at h
        cases hp:kh T f s.2 with
        | none=>rw[hp] at h;cases h
        | some q=>
         rw[hp] at h;injection h with h;injection h with ac av;refine .inr ⟨s.1,s.2,q.2,hc.1.1.1.1,hc.1.1.1.2,hc.1.1.2,hc.1.2,hc.2,rfl,?_,av.symm⟩;rw[←ac];exact hp
      ·cases h
    ·cases h
theorem uJ{T:List Tok}:∀(f k:Nat) (ls:List aA) (F:Nat),jG T f k=some (ls,F)→k<F
 | 0,_,_,_,h=>by cases h
 | f+1,k,ls,F,h=>by
  simp only[jG] at h;split at h
  ·split at h
   ·injection h with h;injection h with _ h;omega
   ·cases h
  ·cases hs:s7 T k with
   | none=>rw[hs] at h;cases h
   | some p=>
    rw[hs] at h;simp only[Option.bind_some] at h
    cases bK:jG T f p.2 with
    | none=>rw[bK] at h;cases h
    | some q=>
     rw[bK] at h;injection h with h;injection h with _ h;have ac:=uJ f p.2 q.1 q.2 bK;have av:=xW (show s7 T k=some (p.1,p.2) from hs);omega
theorem G7:ch prog 25 143 (.agg #[.string ⟨#[]⟩,.slice none 0 0,.slice none 0 0]) 3 64:=ch.mk' Tryz.underlying25 (by kernel_rfl) rfl ad
theorem Fr.GL{M M':Nat→Prop}{a b:World}(h:Fr M a b)(hM:∀k,k<a.heap.size→M k→M' k):Fr M' a b:=⟨h.os,h.tape,h.output,h.size,fun k ap hn=>h.block k ap fun hm=>hn (hM k ap hm)⟩
def D9(g:Nat)(w:World):Nat:=match w.cell? ⟨g,1,none⟩ with|some (.int _ z)=>z.toNat|_=>0
theorem cj.pos{w:World}{g:Nat}{A:Ls}{n c:Nat}{deep:Nat}(h:cj w g A n c T k deep):D9 g w=k:=by
 unfold D9;rw[h.blk.cell];rfl
namespace BZ
theorem dC{p:Prop}(h:p:=by
 generalize hX:World.setCell _ _ _=X;have co:=b4.1;have b8:=cL hX;have bo:aq X (g+1) 27 #[.slice none 0 0,.slice cC (mn+1) c3,.slice FA fn fc]:=hX▸b4.2.2.aM 1 _;have aQ:=aB bo b8 (co.c4 b8 fun b O _=>ad);clear hX co b8 bo bs aX a4;have y:=a5.on aQ.2.1 fun b O=>ad;have bk:=y.pos;have bf:=aW.2.2.2.2.2.2.2.2;have j:=ae y;clear y;go_roundw
 case rel=>
  have cg:Fr (fun b=>b=g∨b=g+1) V X:=Fr.GL (M:=fun b=>(b=g∨b=g+1)∨(Value.slice MA mn mc).ownBlock=some b) (Fr.trans (Fr.trans (Fr.trans (Fr.mono aW.2.1 fun _ h=>.inl h) (Fr.mono an.2 fun _ h=>.inl (.inl h))) (Fr.mono b4.2.1 fun _ h=>.inr h)) (Fr.mono aQ.2.1 fun _ h=>.inl (.inr h))) fun b O hm=>hm.elim id fun hm=>absurd (cM.o b hm) ad
  iterate 101 apply Exists.intro
  refine⟨⟨k+3,f2,cC,mn+1,c3,FA,fn,fc,am++[⟨strOf t.text,false,0⟩],bR,ak,a1,j.o,cg,aQ.1,by rw[KN];exact aQ.2.2,u.2.2.2.2.1,?_,aW.2.2.2.2.2.1,?_,aW.2.2.2.2.2.2.2.1⟩,rfl⟩
  ·rw[←aW.2.2.2.2.1,u.2.2.2.2.2];simp
  ·rw[aW.2.2.2.2.2.2.1];simp
 case measure=>rw[bk,bf];have:=j.lt;omega
 ):p:=h
end BZ
open BZ in
theorem yD(s:ByteArray)(b o cap:Nat)(w:World)(ms:List bI)(fs:List aK)(aH:Nat)(h:ft w b o cap s)(hs:s.size≤4000)(hn:(dt s.data.toList).1.length≤4001)(aM:0<(dt s.data.toList).1.length)(he:(dt s.data.toList).2.2=0)(hp:kh (dt s.data.toList).1 aH 0=some (ms,fs))(ce:ms.length≤12)(cf:fs.length≤16) :
  Calls prog 94 #[.slice (some ⟨b,o,none⟩) s.size cap] w fun e ab=>∃(MA:Ls) (mn mc:Nat) (FA:Ls) (fn fc:Nat) (z:Int),e=.returned (.tuple #[.agg #[.slice none 0 0,.slice MA mn mc,.slice FA fn fc],.int .i64 z,.int .i64 0])∧hk ab (fresh w ab) ⟨[],ms,fs⟩ none 0 MA mn FA fn∧mn≤mc∧fn≤fc∧Ext w ab:=by
 obtain⟨R,bc⟩:∃R,R=dt s.data.toList:=⟨_,rfl⟩
 rw[←bc] at hn aM he hp;obtain⟨T,z,cl⟩:=R;simp only at hn aM he hp;subst he;have H:=cI h hp ce cf bc;clear h hp ce cf bc;go_enter func94,ntmps94;go_upto_region 1 with(fail);generalize ba:World.alloc _ _=W;have aw:=aU ba;have cA:=aG ba;have ah:=ag aw cA;have cY:=cA.lt;clear ba aw cA;go_wp2_with(fail);refine(show Calls prog 111 _ W (ko W (T,z,0)) by rw[H.2.2.2.2];exact xF s b o cap W (H.1.on ah.1) ad).mono ?_;rintro e aS ⟨A,n,c,rfl,U,dL,bU⟩;have aN:Ext W aS:=Fr.of bU;have b9:n=T.length:=dL.1.symm;have dg:n≤4001:=by rw[b9];exact hn
 have cF:0<n:=by rw[b9];exact aM
 have H1:=aB aN dL b9;have cn:=aN.size;clear hn aM bU aN dL b9 U;go_upto_region 5 with(fail);generalize hV:World.alloc _ _=V;have bj:=iO hV;have eN:=gB hV;have dI:=fZ hV;obtain⟨g,a2⟩:∃g,g=aS.heap.size:=⟨_,rfl⟩
 rw[←a2] at eN dI ⊢;have bt:cj V g A n c T 0 0:=⟨eN,(H1.2.1.c4 (Fr.ext bj) bj.size).ez (Below.refl _ _) |> fun h=>by
  rw[a2];exact H1.2.1.ez (Fr.ext bj),cF,dg⟩
 have cc:=bH bt dI bj a2;have bz:=dI.lt;have em:W.heap.size≤g:=ad;clear hV bj eN dI bt a2;go_wp2_with(fail);go_loopw [78] (fun _ wr=>∃(k aH:Nat) (MA:Ls) (mn mc:Nat) (FA:Ls) (fn fc:Nat) (am c7:List bI) (ak a1:List aK),cj wr g A n c T k 0∧Fr (fun b=>b=g∨b=g+1) V wr∧aq wr (g+1) 27 #[.slice none 0 0,.slice MA mn mc,.slice FA fn fc]∧ld V.heap.size 128 3 143 3 wr MA mn mc (am.map ey) FA fn fc (ak.map dr)∧kh T aH k=some (c7,a1)∧am++c7=ms∧ak++a1=fs∧mn=am.length∧fn=ak.length) (fun _ wr=>4001 - D9 g wr)
 case atStart=>exact⟨0,aH,none,0,0,none,0,0,[],ms,[],fs,cc.1,Lo,cc.2.1,ld.nil _ _ _ _ _ _,H.2.1,rfl,rfl,rfl,rfl⟩
 case round=>
  obtain⟨k,ck,MA,mn,mc,FA,fn,fc,am,c7,ak,a1,aZ,hF,aR,hG,ct,az,au,cK,aC⟩:=hrel;have cp:=aZ.lt;have ce:am.length+c7.length≤12:=by have:=H.2.2.1;rw[←az,KI] at this;exact this
  have cf:ak.length+a1.length≤16:=by have:=H.2.2.2.1;rw[←au,KI] at this;exact this
  have l:=aZ.pos;have aW:=xd aZ hF aR hG az au cK aC l;have e5:=hF.size;obtain⟨a0,ai,af⟩:=aZ.blk.two;rcases wy ct with⟨cm,cb,dj⟩|⟨cm,t,f2,ht,bK,bW⟩
  ·have bY:=aB cm cb dj;clear cm cb dj aZ hF aR hG az au ct ce cf cK aC l;go_wp2_with(fail);refine(oR 5 g A n c T k 0 wr aW.1).mono ?_;rintro e aT ⟨rfl,a3⟩;rw[bY.1];have bG:=ae a3;clear a0 ai af;obtain⟨a0,ai,af⟩:=(aW.1.blk.ai a3).two;obtain⟨bs,aX,a4⟩:=(aW.2.2.1.ai a3).two;have P:Ext W aT:=Fr.low (M:=fun b=>b=g∨b=g+1) (Fr.trans (Fr.mono (H1.1.trans cc.2.2.1) fun _ h=>h.elim) (Fr.trans aW.2.1 (Fr.mono a3 fun _ h=>h.elim))) fun b O=>ad;have Q:=ah.2.ai P;have r:=ag Q (ah.1.trans P);obtain⟨bl,aA,aO⟩:=Q.two;have bO:=a3.size;clear a3 P Q;go_wp2_with(fail);generalize hX:World.setCell _ _ _=Z;obtain⟨bh,a9,be⟩:=bA (w:=w) [.slice none 0 0,.slice MA mn mc,.slice FA fn fc] (by rfl) r.1 r.2 ad hX;have bd:=ag a9 be;clear hX a9 be bl aA aO a0 ai af bs aX a4;obtain⟨bl,aA,aO⟩:=bh.two;refine Ln (v:=.tuple #[.agg #[.slice none 0 0,.slice MA mn mc,.slice FA fn fc],.int .i64 z,.int .i64 0]) (by simp[results,Tryz.results94,go_sem,bl]) rfl ?_;have hm:am=ms:=by have:=aW.2.2.2.2.1;rw[bY.2.1,Lg] at this;exact this
   have J:ak=fs:=by have:=aW.2.2.2.2.2.1;rw[bY.2.2,Lg] at this;exact this
   have L:=aW.2.2.2.1.ai bG.o;have cR:=bd.2.size;have e1:=L.c4 bd.2 fun b O _=>by have:=cc.2.2.1.size;omega
   rw[hm,J] at e1;have dm:=cc.2.2.1.size;exact⟨MA,mn,mc,FA,fn,fc,z,rfl,⟨Sl.bO _,e1.one.sl (fun b ac av=>⟨by have:=av.1;omega,ac⟩) (fun b ac av=>⟨ad,ac⟩),e1.two.sl (fun b ac av=>⟨by have:=av.1;omega,ac⟩) (fun b ac av=>⟨ad,ac⟩)⟩,e1.one.cap.1,e1.two.cap.1,bd.1⟩
  ·rcases bW with⟨bR,da,bi,cO,cV,cW,cQ⟩|⟨ls,bP,bN,da,bi,cO,cV,cW,cQ,ek,bZ⟩
   ·
    have bV:T.length≤n:=Nat.le_of_eq H1.2.2.symm;have bM:c7.length=bR.length+1:=by rw[cQ];rfl
    have aV:mn≤11:=ad;have b5:((mn:Int) == 12)=false:=by simp;omega
    have eA:k+3<n:=ad;have bT:=ae cm;have S:=aB da (show cz [118,97,114] T k=false from gu da (by decide)) (show cz [102,117,110,99] T k=false from gu da (by decide));have u:=cT ht bK bi cO cW cQ;clear aZ hF aR hG az au ct cK aC l cm da bi cO cV cW cQ ht bK bM ce cf;have bb:g+1≠g:=ad;go_wp2_with(fail);refine(oR 5 g A n c T k 0 wr aW.1).mono ?_;rintro e v0 ⟨rfl,a3⟩;rw[bT.o];have a6:=ag (aW.1.ai a3) (a3.mono (M':=fun b=>b=g) fun _ h=>h.elim);clear a3 a0 ai af;go_wp2_with(fail);refine(show Calls prog 120 #[.pointer (some ⟨g,0,none⟩),.string ⟨#[118,97,114]⟩] v0 _ from lz [118,97,114] g A n c T (k) 0 v0 a6.1).mono ?_;rintro e v1 ⟨rfl,aw⟩;rw[S.2.1];have bJ:=ag (a6.1.ai aw) (a6.2.trans (aw.mono (M':=fun b=>b=g) fun _ h=>h.elim));clear aw;go_wp2_with(fail);refine(show Calls prog 120 #[.pointer (some ⟨g,0,none⟩),.string ⟨#[109,117,116,101,120]⟩] v1 _ from lz [109,117,116,101,120] g A n c T (k) 0 v1 bJ.1).mono ?_;rintro e v2 ⟨rfl,aw⟩;rw[S.1];have bD:=ag (bJ.1.ai aw) (bJ.2.trans (aw.mono (M':=fun b=>b=g) fun _ h=>h.elim));clear aw;go_wp2_with(fail);refine(show Calls prog 120 #[.pointer (some ⟨g,0,none⟩),.string ⟨#[102,117,110,99]⟩] v2 _ from lz [102,117,110,99] g A n c T (k) 0 v2 bD.1).mono ?_;rintro e aj ⟨rfl,aw⟩;rw[S.2.2];have aY:=ag (bD.1.ai aw) (bD.2.trans (aw.mono (M':=fun b=>b=g) fun _ h=>h.elim));clear aw;obtain⟨bs,aX,a4⟩:=(aW.2.2.1.on aY.2 ad).two;go_wp2_with(fail)
    refine(show Calls prog 122 #[.pointer (some ⟨g,0,none⟩),.string ⟨#[118,97,114]⟩] aj _ from dx [118,97,114] g A n c T (k) 0 aj aY.1 false S.2.1 (fun h=>by cases h)).mono ?_;rintro e v4 ⟨rfl,aZ,hF⟩;have bm:=ag (show cj v4 g A n c T (k) 0 from by simpa using aZ) (aY.2.trans hF);clear aZ hF;clear bs aX a4;go_wp2_with(fail);refine(show Calls prog 122 #[.pointer (some ⟨g,0,none⟩),.string ⟨#[109,117,116,101,120]⟩] v4 _ from dx [109,117,116,101,120] g A n c T (k) 0 v4 bm.1 true S.1 (fun _=>ad)).mono ?_;rintro e bn ⟨rfl,aZ,hF⟩;have br:=ag (show cj bn g A n c T (k+1) 0 from by simpa using aZ) (bm.2.trans hF);clear aZ hF;obtain⟨bs,aX,a4⟩:=(aW.2.2.1.on br.2 ad).two;go_upto_region 13 with(fail);refine eK (fun b=>b=g) [(0,3),(1,0),(2,3),(3,1),(4,1),(5,2),(6,3),(7,2)] ?_;refine pf ?_;refine ow ?_;refine pf ?_;refine aJ rfl (fun K hK=>?_);go_simp;refine(Ec g A n c T (k+1) 0 bn.drew t (br.1.ai (Fr.refl _ bn).drew) u.1 u.2.1 u.2.2.1 u.2.2.2.1 eA).mono ?_;rintro e v6 ⟨rfl,aZ,hF⟩;have an:=ag (show cj v6 g A n c T (k+3) 0 from aZ) (br.2.trans (Fr.aF hF));refine dz hK (hF) ?_;clear hK K;clear aZ hF bs aX a4;refine q0 ?_;have b0:=aW.2.2.2.1.c4 an.2 fun b O _=>ad;have bE:=an.2.size;have al:=ae b0;have cD:=aW.2.2.1.on an.2 bb;have b6:=ae cD;clear b0 cD;refine ax rfl (fun K hK=>?_);rw[if_pos (by rfl)];refine qJ lM (.tmp 92) (.tmp 95) (by rfl) al.one (d:=ey ⟨strOf t.text,false,0⟩) (cs:=#[.string (strOf t.text),.bool false,.int .i64 0]) (fb.2 rfl) (by rfl) (by rfl) (by rfl) ad ad ad ?_
    intro cC c3 bp cd g2 cS c9;have bv:∀b,(Value.slice MA mn mc).ownBlock=some b→V.heap.size≤b:=fun b O=>(al.one.lt O).1;have b4:=aB (al.grow cd g2 cS) g2 (b6.on g2 fun O=>by have:=bv _ O;omega);have a5:=ae (an.1.on g2 fun b O=>by have:=bv b O;omega);have cM:=ae bv;obtain⟨bs,aX,a4⟩:=b4.2.2.two;clear cd g2 cS c9 bv;refine dO hK ?_;clear hK K;refine pf ?_;exact eP
   ·
    have bV:T.length≤n:=Nat.le_of_eq H1.2.2.symm;have bM:a1.length=bN.length+1:=by rw[bZ];rfl
    have cx:fn≤15:=ad;have b3:((fn:Int) == 16)=false:=by simp;omega
    have aL:k+5<n:=ad;have bX:=uJ _ _ _ _ cQ;have bT:=ae cm;have S:=bH da (show cz [118,97,114] T k=false from gu da (by decide)) (show cz [109,117,116,101,120] T k=false from gu da (by decide)) (show cz [114,109,117,116,101,120] T k=false from gu da (by decide));have u:=pe ht bK bi cO cV cQ ek bZ;clear aZ hF aR hG az au ct cK aC l cm da bi cO cV cW cQ ek bZ ht bK bM ce cf;have bb:g+1≠g:=ad;go_wp2_with(fail);refine(oR 5 g A n c T k 0 wr aW.1).mono ?_;rintro e v0 ⟨rfl,a3⟩;rw[bT.o];have a6:=ag (aW.1.ai a3) (a3.mono (M':=fun b=>b=g) fun _ h=>h.elim);clear a3 a0 ai af;go_wp2_with(fail);refine(show Calls prog 120 #[.pointer (some ⟨g,0,none⟩),.string ⟨#[118,97,114]⟩] v0 _ from lz [118,97,114] g A n c T (k) 0 v0 a6.1).mono ?_;rintro e v1 ⟨rfl,aw⟩;rw[S.2.1];have bJ:=ag (a6.1.ai aw) (a6.2.trans (aw.mono (M':=fun b=>b=g) fun _ h=>h.elim));clear aw;go_wp2_with(fail);refine(show Calls prog 120 #[.pointer (some ⟨g,0,none⟩),.string ⟨#[109,117,116,101,120]⟩] v1 _ from lz [109,117,116,101,120] g A n c T (k) 0 v1 bJ.1).mono ?_;rintro e v2 ⟨rfl,aw⟩;rw[S.2.2.1];have bD:=ag (bJ.1.ai aw) (bJ.2.trans (aw.mono (M':=fun b=>b=g) fun _ h=>h.elim));clear aw;go_wp2_with(fail);refine(show Calls prog 120 #[.pointer (some ⟨g,0,none⟩),.string ⟨#[114,109,117,116,101,120]⟩] v2 _ from lz [114,109,117,116,101,120] g A n c T (k) 0 v2 bD.1).mono ?_;rintro e aj ⟨rfl,aw⟩;rw[S.2.2.2];have aY:=ag (bD.1.ai aw) (bD.2.trans (aw.mono (M':=fun b=>b=g) fun _ h=>h.elim));clear aw;go_wp2_with(fail)
    refine(show Calls prog 120 #[.pointer (some ⟨g,0,none⟩),.string ⟨#[102,117,110,99]⟩] aj _ from lz [102,117,110,99] g A n c T (k) 0 aj aY.1).mono ?_;rintro e v4 ⟨rfl,aw⟩;rw[S.1];have bm:=ag (aY.1.ai aw) (aY.2.trans (aw.mono (M':=fun b=>b=g) fun _ h=>h.elim));clear aw;obtain⟨bs,aX,a4⟩:=(aW.2.2.1.on bm.2 ad).two;go_wp2_with(fail);refine(show Calls prog 122 #[.pointer (some ⟨g,0,none⟩),.string ⟨#[118,97,114]⟩] v4 _ from dx [118,97,114] g A n c T (k) 0 v4 bm.1 false S.2.1 (fun h=>by cases h)).mono ?_;rintro e bn ⟨rfl,aZ,hF⟩;have br:=ag (show cj bn g A n c T (k) 0 from by simpa using aZ) (bm.2.trans hF);clear aZ hF;clear bs aX a4;go_wp2_with(fail);refine(show Calls prog 122 #[.pointer (some ⟨g,0,none⟩),.string ⟨#[109,117,116,101,120]⟩] bn _ from dx [109,117,116,101,120] g A n c T (k) 0 bn br.1 false S.2.2.1 (fun h=>by cases h)).mono ?_;rintro e v6 ⟨rfl,aZ,hF⟩;have an:=ag (show cj v6 g A n c T (k) 0 from by simpa using aZ) (br.2.trans hF);clear aZ hF;go_wp2_with(fail);refine(show Calls prog 122 #[.pointer (some ⟨g,0,none⟩),.string ⟨#[114,109,117,116,101,120]⟩] v6 _ from dx [114,109,117,116,101,120] g A n c T (k) 0 v6 an.1 false S.2.2.2 (fun h=>by cases h)).mono ?_;rintro e bp ⟨rfl,aZ,hF⟩;have b1:=ag (show cj bp g A n c T (k) 0 from by simpa using aZ) (an.2.trans hF);clear aZ hF;go_wp2_with(fail)
    refine(show Calls prog 122 #[.pointer (some ⟨g,0,none⟩),.string ⟨#[102,117,110,99]⟩] bp _ from dx [102,117,110,99] g A n c T (k) 0 bp b1.1 true S.1 (fun _=>ad)).mono ?_;rintro e bF ⟨rfl,aZ,hF⟩;have b2:=ag (show cj bF g A n c T (k+1) 0 from by simpa using aZ) (b1.2.trans hF);clear aZ hF;go_wp2_with(fail);refine(oS g A n c T (k+1) 0 bF t b2.1 u.1 u.2.1 ad).mono ?_;rintro e bu ⟨rfl,aZ,hF⟩;have bS:=ag (show cj bu g A n c T (k+2) 0 from aZ) (b2.2.trans hF);have cv:=bS.2.size;clear aZ hF;go_upto_region 18 with(fail);generalize hX:World.alloc _ _=Z;have a9:=aU hX;have m:=aG hX;have a7:=aB (bS.1.ai a9) (bS.2.trans (a9.mono (M':=fun b=>b=g) fun _ h=>h.elim)) m;have hR:g<bu.heap.size:=bS.1.blk.lt;clear hX a9 m;go_wp2_with(fail);refine(yE g A n c T (k+2) 0 Z a7.1 u.2.2.1 u.2.2.2.1 ad).mono ?_;rintro e v11 ⟨rfl,aZ,hF⟩;have m:=a7.2.2.on hF ad;have aP:=aB (show cj v11 g A n c T (k+4) 0 from aZ) (a7.2.1.trans hF) m;obtain⟨cE,N,aF⟩:=m.two;clear aZ hF m;go_upto_region 19 with(fail);generalize hX:World.setCell _ _ _=Y;have ar:=cL hX;have m:aq Y bu.heap.size 143 #[.string (strOf t.text),.slice none 0 0,.slice none 0 0]:=hX▸aP.2.2.aM 1 (.slice none 0 0);have a8:=aB (aP.1.on ar fun b O=>ad) (aP.2.1.eN (ar.below aP.2.1.size fun k ap h=>ad)) m;have bL:bu.heap.size<Y.heap.size:=m.lt;clear hX ar m cE N aF;go_wp2_with(fail);refine(Eb g A n c T (k+4) 0 Y 100 ls bP a8.1 ad u.2.2.2.2.1 ad u.2.2.2.2.2.1).mono ?_;rintro e ay ⟨bq,on,b7,rfl,bB,bC,aZ,hF⟩;have m:=a8.2.2.on hF ad
    have aa:=cI aZ (a8.2.1.trans hF) m bB bC;have ca:=hF.size;obtain⟨cE,N,aF⟩:=m.two;clear aZ hF m bB bC;go_upto_region 20 with(fail);generalize hX:World.setCell _ _ _=hl;have ar:=cL hX;have m:aq hl bu.heap.size 143 #[.string (strOf t.text),.slice none 0 0,.slice bq on b7]:=hX▸aa.2.2.1.aM 2 (.slice bq on b7);have ao:Fr (fun b=>b=g) wr hl:=aa.2.1.eN (ar.below aa.2.1.size fun k ap h=>ad);have b0:=aW.2.2.2.1.c4 ao fun b O _=>ad;have bE:=ao.size;have ci:=ar.size;have ch:Sl hl (fresh Y ay) bq on (ls.map bg):=aa.2.2.2.2.ak fun b O=>ar.block b O.2 (aD O.1);have bx:∀b,(Value.slice MA mn mc).ownBlock=some b→b<wr.heap.size:=fun b O=>(aW.2.2.2.1.one.lt O).2;have aI:∀b,(Value.slice FA fn fc).ownBlock=some b→b<wr.heap.size:=fun b O=>(aW.2.2.2.1.two.lt O).2;have bw:(dr ⟨strOf t.text,[],eH ls⟩).rep hl (lv (fun b=>V.heap.size≤b∧(Value.slice MA mn mc).ownBlock≠some b) hl (.slice FA fn fc)) [.string (strOf t.text),.slice none 0 0,.slice bq on b7]:=
     kS.2 ⟨none,0,0,bq,on,b7,rfl,KG _,aa.2.2.2.1,Sl.bO _,by rw[fE];exact ch.mono fun b O=>⟨⟨by have:=O.1;omega,fun h=>by have:=bx b h;have:=O.1;omega⟩,by have:=O.2;omega,fun h=>by have:=aI b h;have:=O.1;omega⟩⟩
    have al:=ag b0 bw;have cD:=aW.2.2.1.on ao bb;have b6:=ae cD;have an:=ag (aa.1.on ar fun b O=>ad) ao;clear hX ar ao b0 ch bx aI bw cE N aF;obtain⟨cE,N,aF⟩:=m.two;obtain⟨bs,aX,a4⟩:=cD.two;clear m cD;go_wp2_with(at_builtin;refine bQ G7 rfl (.tmp 121) (.tmp 123) rfl al.1.two (d:=dr ⟨strOf t.text,[],eH ls⟩) (cs:=#[.string (strOf t.text),.slice none 0 0,.slice bq on b7]) al.2 rfl rfl rfl ad ad ad ?_;intro cC c3 bp cd g2 cS c9;have bv:∀b,(Value.slice FA fn fc).ownBlock=some b→V.heap.size≤b:=fun b O=>(al.1.two.lt O).1;have b4:=aB ((al.1.swap.grow cd g2 cS).swap) g2 (b6.on g2 fun O=>by have:=bv _ O;omega);have a5:=ae (an.1.on g2 fun b O=>by have:=bv b O;omega);have cM:=ae bv;clear bs aX a4 cE N aF;obtain⟨bs,aX,a4⟩:=b4.2.2.two;clear cd g2 cS c9 bv);generalize hX:World.setCell _ _ _=X;have co:=b4.1;have b8:=cL hX;have bo:aq X (g+1) 27 #[.slice none 0 0,.slice MA mn mc,.slice cC (fn+1) c3]:=hX▸b4.2.2.aM 2 _;have aQ:=aB bo b8 (co.c4 b8 fun b O _=>ad);clear hX co b8 bo bs aX a4;have y:=a5.on aQ.2.1 fun b O=>ad;have bk:=y.pos;have bf:=aW.2.2.2.2.2.2.2.2;have j:=ae y;clear y;go_roundw
    case rel=>
     have cg:Fr (fun b=>b=g∨b=g+1) V X:=Fr.GL (M:=fun b=>(b=g∨b=g+1)∨(Value.slice FA fn fc).ownBlock=some b) (Fr.trans (Fr.trans (Fr.trans (Fr.mono aW.2.1 fun _ h=>.inl h) (Fr.mono an.2 fun _ h=>.inl (.inl h))) (Fr.mono b4.2.1 fun _ h=>.inr h)) (Fr.mono aQ.2.1 fun _ h=>.inl (.inr h))) fun b O hm=>hm.elim id fun hm=>absurd (cM.o b hm) ad;refine⟨bP,f2,MA,mn,mc,cC,fn+1,c3,am,c7,ak++[⟨strOf t.text,[],eH ls⟩],bN,j.o,cg,aQ.1,by rw[KN];exact aQ.2.2,u.2.2.2.2.2.2.1,aW.2.2.2.2.1,?_,aW.2.2.2.2.2.2.1,?_⟩
     ·rw[←aW.2.2.2.2.2.1,u.2.2.2.2.2.2.2];simp
     ·rw[aW.2.2.2.2.2.2.2.1];simp
    case measure=>rw[bk,bf];have:=j.lt;omega
end Go.Proofs.YtnhhdaggkiomoaaGreat
