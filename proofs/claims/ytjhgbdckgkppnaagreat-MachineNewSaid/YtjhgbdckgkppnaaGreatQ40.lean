/- Part 40 of the proof (PrsE), without conditions of its own. -/
import Derived.Test.YtjhgbdckgkppnaaGreatQ30
import Derived.Test.YtjhgbdckgkppnaaGreatQ39
namespace Go.Proofs.YtjhgbdckgkppnaaGreat
open Go.RowKit Go.Proofs.Tryz
set_option maxRecDepth 1000000
set_option maxHeartbeats 25600000
set_option linter.unusedVariables false
variable{T:List Tok}{k:Nat}{p:Prop}
def d3:List ay→aj
 | []=>.nil
 | .set v n e::l=>.set v n e (d3 l)
 | .call g n aO::l=>.call g n aO (d3 l)
 | .lock u r::l=>.lock u r (d3 l)
 | .ite e th el::l=>.ite e th el (d3 l)
 | .fj e th::l=>.fj e th (d3 l)
 | .ret::l=>.ret (d3 l)
theorem eQ:∀l:List ay,cL (d3 l)=l.map aW
 | []=>rfl
 | .set v n e::l=>by simp only[d3,cL,Gh,aW,eQ l]
 | .call g n aO::l=>by simp only[d3,cL,Gh,aW,eQ l]
 | .lock u r::l=>by simp only[d3,cL,Gh,aW,eQ l]
 | .ite e th el::l=>by simp only[d3,cL,Gh,aW,eQ l]
 | .fj e th::l=>by simp only[d3,cL,Gh,aW,eQ l]
 | .ret::l=>by simp only[d3,cL,Gh,aW,eQ l]
def jl(T:List Tok):Nat→Nat→Option (List bF×List aG)
 | 0,_=>none
 | f+1,k=>if qD 5 T k then some ([],[]) else match T[k+1]? with
  | none=>none
  | some t=>if t.kind=1 then
    if cj [109,117,116,101,120] T k && !cj [91] T (k+2) && cj [59] T (k+2) && decide (k+3<T.length) then (jl T f (k+3)).map fun q=>(⟨strOf t.text,false,0⟩::q.1,q.2)
    else if cj [102,117,110,99] T k && cj [40] T (k+2) && cj [41] T (k+3) && cj [123] T (k+4) && decide (k+5<T.length) then
     (iI T 100 (k+5)).bind fun s=>(jl T f s.2).map fun q=>(q.1,⟨strOf t.text,[],d3 s.1⟩::q.2)
    else none
   else none
theorem tu{f:Nat}{ms:List bF}{fs:List aG}(h:jl T f k=some (ms,fs)):(qD 5 T k=true∧ms=[]∧fs=[])∨(qD 5 T k=false∧∃(t:Tok) (eL:Nat),T[k+1]?=some t∧t.kind=1∧
  ((∃bC,cj [109,117,116,101,120] T k=true∧cj [91] T (k+2)=false∧cj [59] T (k+2)=true∧k+3<T.length∧jl T eL (k+3)=some (bC,fs)∧ms=⟨strOf t.text,false,0⟩::bC)∨(∃ls bZ a7,cj [102,117,110,99] T k=true∧cj [40] T (k+2)=true∧cj [41] T (k+3)=true∧cj [123] T (k+4)=true∧k+5<T.length∧iI T 100 (k+5)=some (ls,bZ)∧jl T eL bZ=some (ms,a7)∧fs=⟨strOf t.text,[],d3 ls⟩::a7))):=by
 cases f with
 | zero=>cases h
 | succ f=>
  unfold jl at h
  cases cr:qD 5 T k with
  | true=>
   rw[cr,if_pos rfl] at h;injection h with h;injection h with ac J
   exact .inl ⟨rfl,ac.symm,J.symm⟩
  | false=>
   rw[cr,if_neg (by simp)] at h;refine .inr ⟨rfl,?_⟩
   cases ht:T[k+1]? with
   | none=>rw[ht] at h;cases h
   | some t=>
    rw[ht] at h;simp only at h;split at h
    ·rename_i bu;refine⟨t,f,rfl,bu,?_⟩;split at h
     ·rename_i hc;simp only[Gn,Bool.not_eq_true',GK] at hc
      cases hp:jl T f (k+3) with
      | none=>rw[hp] at h;cases h
      | some q=>
       rw[hp] at h;injection h with h;injection h with ac J;refine .inl ⟨q.1,hc.1.1.1,hc.1.1.2,hc.1.2,hc.2,?_,ac.symm⟩;rw[←J]
     ·split at h
      ·rename_i hc;simp only[Gn,GK] at hc
       cases hs:iI T 100 (k+5) with
       | none=>rw[hs] at h;cases h
       | some s=>
        rw[hs] at h;simp only[Option.bind_some] at h
        cases hp:jl T f s.2 with
        | none=>rw[hp] at h;cases h
        | some q=>
         rw[hp] at h;injection h with h;injection h with ac J;refine .inr ⟨s.1,s.2,q.2,hc.1.1.1.1,hc.1.1.1.2,hc.1.1.2,hc.1.2,hc.2,rfl,?_,J.symm⟩;rw[←ac];exact hp
      ·cases h
    ·cases h
theorem rT{T:List Tok}:∀(f k:Nat) (ls:List ay) (F:Nat),iI T f k=some (ls,F)→k<F
 | 0,_,_,_,h=>by cases h
 | f+1,k,ls,F,h=>by
  simp only[iI] at h;split at h
  ·split at h
   ·injection h with h;injection h with _ h;omega
   ·cases h
  ·cases hs:qB T k with
   | none=>rw[hs] at h;cases h
   | some p=>
    rw[hs] at h;simp only[Option.bind_some] at h
    cases bu:iI T f p.2 with
    | none=>rw[bu] at h;cases h
    | some q=>
     rw[bu] at h;injection h with h;injection h with _ h;have ac:=rT f p.2 q.1 q.2 bu;have J:=uU (show qB T k=some (p.1,p.2) from hs);omega
theorem DT:b0 prog 25 140 (.agg #[.string ⟨#[]⟩,.slice none 0 0,.slice none 0 0]) 3 64:=b0.mk' Tryz.underlying25 (by kernel_rfl) rfl ad
theorem Fr.DC{M M':Nat→Prop}{a b:World}(h:Fr M a b)(a5:∀k,k<a.heap.size→M k→M' k):Fr M' a b:=⟨h.os,h.tape,h.output,h.size,fun k ap hn=>h.block k ap fun hm=>hn (a5 k ap hm)⟩
def A3(g:Nat)(w:World):Nat:=match w.cell? ⟨g,1,none⟩ with|some (.int _ z)=>z.toNat|_=>0
theorem b1.pos{w:World}{g:Nat}{A:GR}{n c:Nat}{deep:Nat}(h:b1 w g A n c T k deep):A3 g w=k:=by
 unfold A3;rw[h.blk.cell];rfl
namespace y9
theorem di(h:p:=by
 generalize ah:World.setCell _ _ _=X;have cO:=bB.1;have bV:Fr (fun b=>b=g+1) bb X:=ah▸(Fr.refl (fun b=>b=g+1) bb).setCell (.inl rfl) _;have bz:ag X (g+1) 27 #[.slice none 0 0,.slice cl (mn+1) c3,.slice FA fn fc]:=ah▸bB.2.2.aH 1 _;have aU:=aK bz bV (cO.cZ bV fun b O _=>ad);clear ah cO bV bz bD bE b5;have y:=ba.on aU.2.1 fun b O=>ad;have bv:=y.pos;have bs:=aZ.2.2.2.2.2.2.2.2;have aF:=ae y;clear y;go_roundw
 case rel=>
  have cz:Fr (fun b=>b=g∨b=g+1) V X:=Fr.DC (M:=fun b=>(b=g∨b=g+1)∨(Value.slice MA mn mc).ownBlock=some b) (Fr.trans (Fr.trans (Fr.trans (Fr.mono aZ.2.1 fun _ h=>.inl h) (Fr.mono aJ.2 fun _ h=>.inl (.inl h))) (Fr.mono bB.2.1 fun _ h=>.inr h)) (Fr.mono aU.2.1 fun _ h=>.inl (.inr h))) fun b O hm=>hm.elim id fun hm=>absurd (de.o b hm) ad
  iterate 101 apply Exists.intro
  refine⟨⟨k+3,eL,cl,mn+1,c3,FA,fn,fc,am++[⟨strOf t.text,false,0⟩],bY,a2,a7,aF.o,cz,aU.1,by rw[Gi];exact aU.2.2,j.2.2.2.2.1,?_,aZ.2.2.2.2.2.1,?_,aZ.2.2.2.2.2.2.2.1⟩,rfl⟩
  ·rw[←aZ.2.2.2.2.1,j.2.2.2.2.2];simp
  ·rw[aZ.2.2.2.2.2.2.1];simp
 case measure=>rw[bv,bs];have:=aF.lt;omega
 ):p:=h
theorem gB(h:p:=by
 have b6:ag W w.heap.size 27 #[.slice none 0 0,.slice none 0 0,.slice none 0 0]:=bg▸GO;have aj:=ai av b6;have cH:=b6.lt;clear bg av b6;go_wp2_with (fail);refine(show Calls prog 104 _ W (iQ W (T,z,0)) by rw[H.2.2.2.2];exact uI s b o cap W (H.1.on aj.1) ad).mono ?_;rintro e aH ⟨A,n,c,rfl,aL,f5,bQ⟩;have aI:Ext W aH:=Fr.of bQ;have ce:n=T.length:=f5.1.symm;have cN:n≤4001:=by rw[ce];exact hn
 have cE:0<n:=by rw[ce];exact u
 have H1:=aK aI f5 ce;have b7:=aI.size;clear hn u bQ aI f5 ce aL;go_upto_region 5 with(fail);generalize hV:World.alloc _ _=V;have S:Ext aH V:=hV▸(GN.alloc _).alloc _;have cd:ag V aH.heap.size 195 #[.slice A n c,.int .i64 ((0:Nat):Int),.int .i64 0,.int .i64 0,.int .i64 0,.int .i64 ((0:Nat):Int)]:=hV▸(GO).alloc _;have aq:ag V (aH.heap.size+1) 27 #[.slice none 0 0,.slice none 0 0,.slice none 0 0]:=hV▸ag.bR _ _ _ (by simp);obtain⟨g,aM⟩:∃g,g=aH.heap.size:=⟨_,rfl⟩
 rw[←aM] at cd aq ⊢;have bJ:b1 V g A n c T 0 0:=⟨cd,(H1.2.1.cZ (Fr.ext S) S.size).d9 (Below.refl _ _) |> fun h=>by
  rw[aM];exact H1.2.1.d9 (Fr.ext S),cE,cN⟩
 have cg:=bO bJ aq S aM;have cC:=aq.lt;have eo:W.heap.size≤g:=ad;clear hV S cd aq bJ aM;go_wp2_with (fail);go_loopw [78] (fun _ wr=>∃(k a3:Nat) (MA:GR) (mn mc:Nat) (FA:GR) (fn fc:Nat) (am bC:List bF) (a2 a7:List aG),b1 wr g A n c T k 0∧Fr (fun b=>b=g∨b=g+1) V wr∧ag wr (g+1) 27 #[.slice none 0 0,.slice MA mn mc,.slice FA fn fc]∧jO V.heap.size 133 3 140 3 wr MA mn mc (am.map d4) FA fn fc (a2.map c7)∧jl T a3 k=some (bC,a7)∧am++bC=ms∧a2++a7=fs∧mn=am.length∧fn=a2.length) (fun _ wr=>4001 - A3 g wr)
 case atStart=>exact⟨0,a3,none,0,0,none,0,0,[],ms,[],fs,cg.1,GN,cg.2.1,jO.nil _ _ _ _ _ _,H.2.1,rfl,rfl,rfl,rfl⟩
 case round=>
  obtain⟨k,cB,MA,mn,mc,FA,fn,fc,am,bC,a2,a7,U,hF,aT,bR,bo,aS,aR,bX,cW⟩:=hrel;have aY:=U.lt;have aC:am.length+bC.length≤12:=by have:=H.2.2.1;rw[←aS,Gd] at this;exact this
  have b2:a2.length+a7.length≤16:=by have:=H.2.2.2.1;rw[←aR,Gd] at this;exact this
  have l:=U.pos;have aZ:=ub U hF aT bR aS aR bX cW l;have dU:=hF.size;obtain⟨a0,al,af⟩:=U.blk.two;rcases tu bo with⟨cr,cK,cR⟩|⟨cr,t,eL,ht,bu,ch⟩
  ·have bT:=aK cr cK cR;clear cr cK cR U hF aT bR aS aR bo aC b2 bX cW l;go_wp2_with (fail);refine(m9 5 g A n c T k 0 wr aZ.1).mono ?_;rintro e aQ ⟨rfl,aO⟩;rw[bT.1];have bk:=ae aO;clear a0 al af;obtain⟨a0,al,af⟩:=(aZ.1.blk.al aO).two;obtain⟨bD,bE,b5⟩:=(aZ.2.2.1.al aO).two;have aa:Ext W aQ:=Fr.low (M:=fun b=>b=g∨b=g+1) (Fr.trans (Fr.mono (H1.1.trans cg.2.2.1) fun _ h=>h.elim) (Fr.trans aZ.2.1 (Fr.mono aO fun _ h=>h.elim))) fun b O=>ad;have P:=aj.2.al aa;have L:=ai P (aj.1.trans aa);obtain⟨bx,bd,be⟩:=P.two;have bK:=aO.size;clear aO aa P;go_wp2_with (fail);generalize ah:World.setCell _ _ _=Z;obtain⟨bm,a9,bn⟩:=cx (w:=w) [.slice none 0 0,.slice MA mn mc,.slice FA fn fc] (by rfl) L.1 L.2 ad ah;have bf:=ai a9 bn;clear ah a9 bn bx bd be a0 al af bD bE b5;obtain⟨bx,bd,be⟩:=bm.two;refine GM (v:=.tuple #[.agg #[.slice none 0 0,.slice MA mn mc,.slice FA fn fc],.int .i64 z,.int .i64 0]) (by simp[results,Tryz.results88,go_sem,bx]) rfl ?_;have hm:am=ms:=by have:=aZ.2.2.2.2.1;rw[bT.2.1,GF] at this;exact this
   have aw:a2=fs:=by have:=aZ.2.2.2.2.2.1;rw[bT.2.2,GF] at this;exact this
   have eN:=aZ.2.2.2.1.al bk.o;have cG:=bf.2.size;have cc:=eN.cZ bf.2 fun b O _=>by have:=cg.2.2.1.size;omega
   rw[hm,aw] at cc;have cv:=cg.2.2.1.size;exact⟨MA,mn,mc,FA,fn,fc,z,rfl,⟨Sl.bu _,cc.one.sl (fun b ac J=>⟨by have:=J.1;omega,ac⟩) (fun b ac J=>⟨ad,ac⟩),cc.two.sl (fun b ac J=>⟨by have:=J.1;omega,ac⟩) (fun b ac J=>⟨ad,ac⟩)⟩,cc.one.cap.1,cc.two.cap.1,bf.1⟩
  ·rcases ch with⟨bY,cM,c9,a8,ao,b0,a1⟩|⟨ls,bZ,bW,cM,c9,a8,ao,b0,a1,eg,cm⟩
   ·
    have cf:T.length≤n:=Nat.le_of_eq H1.2.2.symm;have b3:bC.length=bY.length+1:=by rw[a1];rfl
    have b9:mn≤11:=ad;have cu:((mn:Int) == 12)=false:=by simp;omega
    have Q:k+3<n:=ad;have cb:=ae cr;have ak:=aK cM (show cj [118,97,114] T k=false from fB cM (by decide)) (show cj [102,117,110,99] T k=false from fB cM (by decide));have j:=dz ht bu c9 a8 b0 a1;clear U hF aT bR aS aR bo bX cW l cr cM c9 a8 ao b0 a1 ht bu b3 aC b2;have bl:g+1≠g:=ad;go_wp2_with (fail);refine(m9 5 g A n c T k 0 wr aZ.1).mono ?_;rintro e v0 ⟨rfl,aO⟩;rw[cb.o];have bc:=ai (aZ.1.al aO) (aO.mono (M':=fun b=>b=g) fun _ h=>h.elim);clear aO a0 al af;go_wp2_with (fail);refine(show Calls prog 112 #[.pointer (some ⟨g,0,none⟩),.string ⟨#[118,97,114]⟩] v0 _ from kq [118,97,114] g A n c T (k) 0 v0 bc.1).mono ?_;rintro e v1 ⟨rfl,av⟩;rw[ak.2.1];have bI:=ai (bc.1.al av) (bc.2.trans (av.mono (M':=fun b=>b=g) fun _ h=>h.elim));clear av;go_wp2_with (fail);refine(show Calls prog 112 #[.pointer (some ⟨g,0,none⟩),.string ⟨#[109,117,116,101,120]⟩] v1 _ from kq [109,117,116,101,120] g A n c T (k) 0 v1 bI.1).mono ?_;rintro e v2 ⟨rfl,av⟩;rw[ak.1];have bq:=ai (bI.1.al av) (bI.2.trans (av.mono (M':=fun b=>b=g) fun _ h=>h.elim));clear av;go_wp2_with (fail);refine(show Calls prog 112 #[.pointer (some ⟨g,0,none⟩),.string ⟨#[102,117,110,99]⟩] v2 _ from kq [102,117,110,99] g A n c T (k) 0 v2 bq.1).mono ?_;rintro e r ⟨rfl,av⟩;rw[ak.2.2];have a6:=ai (bq.1.al av) (bq.2.trans (av.mono (M':=fun b=>b=g) fun _ h=>h.elim));clear av;obtain⟨bD,bE,b5⟩:=(aZ.2.2.1.on a6.2 ad).two;go_wp2_with (fail)
    refine(show Calls prog 114 #[.pointer (some ⟨g,0,none⟩),.string ⟨#[118,97,114]⟩] r _ from df [118,97,114] g A n c T (k) 0 r a6.1 false ak.2.1 (fun h=>by cases h)).mono ?_;rintro e v4 ⟨rfl,U,hF⟩;have bw:=ai (show b1 v4 g A n c T (k) 0 from by simpa using U) (a6.2.trans hF);clear U hF;clear bD bE b5;go_wp2_with (fail);refine(show Calls prog 114 #[.pointer (some ⟨g,0,none⟩),.string ⟨#[109,117,116,101,120]⟩] v4 _ from df [109,117,116,101,120] g A n c T (k) 0 v4 bw.1 true ak.1 (fun _=>ad)).mono ?_;rintro e aN ⟨rfl,U,hF⟩;have bH:=ai (show b1 aN g A n c T (k+1) 0 from by simpa using U) (bw.2.trans hF);clear U hF;obtain⟨bD,bE,b5⟩:=(aZ.2.2.1.on bH.2 ad).two;go_upto_region 13 with(fail);refine eh (fun b=>b=g) [(0,3),(1,0),(2,3),(3,1),(4,1),(5,2),(6,3),(7,2)] ?_;refine pf ?_;refine ow ?_;refine pf ?_;refine aA rfl (fun K hK=>?_);go_simp;refine(A6 g A n c T (k+1) 0 aN.drew t (bH.1.al (Fr.refl _ aN).drew) j.1 j.2.1 j.2.2.1 j.2.2.2.1 Q).mono ?_;rintro e v6 ⟨rfl,U,hF⟩;have aJ:=ai (show b1 v6 g A n c T (k+3) 0 from U) (bH.2.trans (Fr.aE hF));refine hK _ _ (hF) ?_;clear hK K
    try simp only[PU]
    clear U hF bD bE b5;refine uQ ?_;have cn:=aZ.2.2.2.1.cZ aJ.2 fun b O _=>ad;have bA:=aJ.2.size;have a4:=ae cn;have cq:=aZ.2.2.1.on aJ.2 bl;have N:=ae cq;clear cn cq;refine ax rfl (fun K hK=>?_);rw[if_pos (by rfl)];refine lI kx (.tmp 92) (.tmp 95) (by rfl) a4.one (d:=d4 ⟨strOf t.text,false,0⟩) (cs:=#[.string (strOf t.text),.bool false,.int .i64 0]) (ez.2 rfl) (by rfl) (by rfl) (by rfl) ad ad ad ?_;intro cl c3 bb b4 g2 cD cP;have bN:∀b,(Value.slice MA mn mc).ownBlock=some b→V.heap.size≤b:=fun b O=>(a4.one.lt O).1;have bB:=aK (a4.grow b4 g2 cD) g2 (N.on g2 fun O=>by have:=bN _ O;omega);have ba:=ae (aJ.1.on g2 fun b O=>by have:=bN b O;omega);have de:=ae bN;obtain⟨bD,bE,b5⟩:=bB.2.2.two;clear b4 g2 cD cP bN;exact pZ
   ·
    have cf:T.length≤n:=Nat.le_of_eq H1.2.2.symm;have b3:a7.length=bW.length+1:=by rw[cm];rfl
    have ci:fn≤15:=ad;have ct:((fn:Int) == 16)=false:=by simp;omega
    have aE:k+5<n:=ad;have az:=rT _ _ _ _ a1;have cb:=ae cr;have ak:=bO cM (show cj [118,97,114] T k=false from fB cM (by decide)) (show cj [109,117,116,101,120] T k=false from fB cM (by decide)) (show cj [114,109,117,116,101,120] T k=false from fB cM (by decide));have j:=nw ht bu c9 a8 ao a1 eg cm;clear U hF aT bR aS aR bo bX cW l cr cM c9 a8 ao b0 a1 eg cm ht bu b3 aC b2;have bl:g+1≠g:=ad;go_wp2_with (fail);refine(m9 5 g A n c T k 0 wr aZ.1).mono ?_;rintro e v0 ⟨rfl,aO⟩;rw[cb.o];have bc:=ai (aZ.1.al aO) (aO.mono (M':=fun b=>b=g) fun _ h=>h.elim);clear aO a0 al af;go_wp2_with (fail);refine(show Calls prog 112 #[.pointer (some ⟨g,0,none⟩),.string ⟨#[118,97,114]⟩] v0 _ from kq [118,97,114] g A n c T (k) 0 v0 bc.1).mono ?_;rintro e v1 ⟨rfl,av⟩;rw[ak.2.1];have bI:=ai (bc.1.al av) (bc.2.trans (av.mono (M':=fun b=>b=g) fun _ h=>h.elim));clear av;go_wp2_with (fail);refine(show Calls prog 112 #[.pointer (some ⟨g,0,none⟩),.string ⟨#[109,117,116,101,120]⟩] v1 _ from kq [109,117,116,101,120] g A n c T (k) 0 v1 bI.1).mono ?_;rintro e v2 ⟨rfl,av⟩;rw[ak.2.2.1];have bq:=ai (bI.1.al av) (bI.2.trans (av.mono (M':=fun b=>b=g) fun _ h=>h.elim));clear av;go_wp2_with (fail);refine(show Calls prog 112 #[.pointer (some ⟨g,0,none⟩),.string ⟨#[114,109,117,116,101,120]⟩] v2 _ from kq [114,109,117,116,101,120] g A n c T (k) 0 v2 bq.1).mono ?_;rintro e r ⟨rfl,av⟩;rw[ak.2.2.2];have a6:=ai (bq.1.al av) (bq.2.trans (av.mono (M':=fun b=>b=g) fun _ h=>h.elim));clear av;go_wp2_with (fail)
    refine(show Calls prog 112 #[.pointer (some ⟨g,0,none⟩),.string ⟨#[102,117,110,99]⟩] r _ from kq [102,117,110,99] g A n c T (k) 0 r a6.1).mono ?_;rintro e v4 ⟨rfl,av⟩;rw[ak.1];have bw:=ai (a6.1.al av) (a6.2.trans (av.mono (M':=fun b=>b=g) fun _ h=>h.elim));clear av;obtain⟨bD,bE,b5⟩:=(aZ.2.2.1.on bw.2 ad).two;go_wp2_with (fail);refine(show Calls prog 114 #[.pointer (some ⟨g,0,none⟩),.string ⟨#[118,97,114]⟩] v4 _ from df [118,97,114] g A n c T (k) 0 v4 bw.1 false ak.2.1 (fun h=>by cases h)).mono ?_;rintro e aN ⟨rfl,U,hF⟩;have bH:=ai (show b1 aN g A n c T (k) 0 from by simpa using U) (bw.2.trans hF);clear U hF;clear bD bE b5;go_wp2_with (fail);refine(show Calls prog 114 #[.pointer (some ⟨g,0,none⟩),.string ⟨#[109,117,116,101,120]⟩] aN _ from df [109,117,116,101,120] g A n c T (k) 0 aN bH.1 false ak.2.2.1 (fun h=>by cases h)).mono ?_;rintro e v6 ⟨rfl,U,hF⟩;have aJ:=ai (show b1 v6 g A n c T (k) 0 from by simpa using U) (bH.2.trans hF);clear U hF;go_wp2_with (fail);refine(show Calls prog 114 #[.pointer (some ⟨g,0,none⟩),.string ⟨#[114,109,117,116,101,120]⟩] v6 _ from df [114,109,117,116,101,120] g A n c T (k) 0 v6 aJ.1 false ak.2.2.2 (fun h=>by cases h)).mono ?_;rintro e bb ⟨rfl,U,hF⟩;have co:=ai (show b1 bb g A n c T (k) 0 from by simpa using U) (aJ.2.trans hF);clear U hF;go_wp2_with (fail)
    refine(show Calls prog 114 #[.pointer (some ⟨g,0,none⟩),.string ⟨#[102,117,110,99]⟩] bb _ from df [102,117,110,99] g A n c T (k) 0 bb co.1 true ak.1 (fun _=>ad)).mono ?_;rintro e bt ⟨rfl,U,hF⟩;have cp:=ai (show b1 bt g A n c T (k+1) 0 from by simpa using U) (co.2.trans hF);clear U hF;go_wp2_with (fail);refine(na g A n c T (k+1) 0 bt t cp.1 j.1 j.2.1 ad).mono ?_;rintro e bp ⟨rfl,U,hF⟩;have ca:=ai (show b1 bp g A n c T (k+2) 0 from U) (cp.2.trans hF);have cQ:=ca.2.size;clear U hF;go_upto_region 18 with(fail);generalize ah:World.alloc _ _=Z;have a9:Ext bp Z:=ah▸GN.alloc _;have m:ag Z bp.heap.size 140 #[.string (strOf t.text),.slice none 0 0,.slice none 0 0]:=ah▸GO;have bh:=aK (ca.1.al a9) (ca.2.trans (a9.mono (M':=fun b=>b=g) fun _ h=>h.elim)) m;have iz:g<bp.heap.size:=ca.1.blk.lt;clear ah a9 m;go_wp2_with (fail);refine(vF g A n c T (k+2) 0 Z bh.1 j.2.2.1 j.2.2.2.1 ad).mono ?_;rintro e v11 ⟨rfl,U,hF⟩;have m:=bh.2.2.on hF ad;have a5:=aK (show b1 v11 g A n c T (k+4) 0 from U) (bh.2.1.trans hF) m;obtain⟨b8,an,ar⟩:=m.two;clear U hF m;go_upto_region 19 with(fail);generalize ah:World.setCell _ _ _=Y;have aV:Fr (fun b=>b=bp.heap.size) v11 Y:=ah▸(Fr.refl (fun b=>b=bp.heap.size) v11).setCell (.inl rfl) _;have m:ag Y bp.heap.size 140 #[.string (strOf t.text),.slice none 0 0,.slice none 0 0]:=ah▸a5.2.2.aH 1 (.slice none 0 0);have bi:=aK (a5.1.on aV fun b O=>ad) (a5.2.1.eg (aV.below a5.2.1.size fun k ap h=>ad)) m;have bU:bp.heap.size<Y.heap.size:=m.lt;clear ah aV m b8 an ar
    go_wp2_with (fail);refine(A5 g A n c T (k+4) 0 Y 100 ls bZ bi.1 ad j.2.2.2.2.1 ad j.2.2.2.2.2.1).mono ?_;rintro e aX ⟨au,on,bj,rfl,bM,bP,U,hF⟩;have m:=bi.2.2.on hF ad;have ay:=cA U (bi.2.1.trans hF) m bM bP;have cw:=hF.size;obtain⟨b8,an,ar⟩:=m.two;clear U hF m bM bP;go_upto_region 20 with(fail);generalize ah:World.setCell _ _ _=hb;have aV:Fr (fun b=>b=bp.heap.size) aX hb:=ah▸(Fr.refl (fun b=>b=bp.heap.size) aX).setCell (.inl rfl) _;have m:ag hb bp.heap.size 140 #[.string (strOf t.text),.slice none 0 0,.slice au on bj]:=ah▸ay.2.2.1.aH 2 (.slice au on bj);have aP:Fr (fun b=>b=g) wr hb:=ay.2.1.eg (aV.below ay.2.1.size fun k ap h=>ad);have cn:=aZ.2.2.2.1.cZ aP fun b O _=>ad;have bA:=aP.size;have cy:=aV.size;have ck:Sl hb (fresh Y aX) au on (ls.map aW):=ay.2.2.2.2.ao fun b O=>aV.block b O.2 (aB O.1);have cU:∀b,(Value.slice MA mn mc).ownBlock=some b→b<wr.heap.size:=fun b O=>(aZ.2.2.2.1.one.lt O).2;have bG:∀b,(Value.slice FA fn fc).ownBlock=some b→b<wr.heap.size:=fun b O=>(aZ.2.2.2.1.two.lt O).2;have bL:(c7 ⟨strOf t.text,[],d3 ls⟩).rep hb (j2 (fun b=>V.heap.size≤b∧(Value.slice MA mn mc).ownBlock≠some b) hb (.slice FA fn fc)) [.string (strOf t.text),.slice none 0 0,.slice au on bj]:=
     iy.2 ⟨none,0,0,au,on,bj,rfl,Gb _,ay.2.2.2.1,Sl.bu _,by rw[eQ];exact ck.mono fun b O=>⟨⟨by have:=O.1;omega,fun h=>by have:=cU b h;have:=O.1;omega⟩,by have:=O.2;omega,fun h=>by have:=bG b h;have:=O.1;omega⟩⟩
    have a4:=ai cn bL;have cq:=aZ.2.2.1.on aP bl;have N:=ae cq;have aJ:=ai (ay.1.on aV fun b O=>ad) aP;clear ah aV aP cn ck cU bG bL b8 an ar;obtain⟨b8,an,ar⟩:=m.two;obtain⟨bD,bE,b5⟩:=cq.two;clear m cq;go_wp2_with (at_builtin;refine bS DT rfl (.tmp 121) (.tmp 123) rfl a4.1.two (d:=c7 ⟨strOf t.text,[],d3 ls⟩) (cs:=#[.string (strOf t.text),.slice none 0 0,.slice au on bj]) a4.2 rfl rfl rfl ad ad ad ?_;intro cl c3 bb b4 g2 cD cP;have bN:∀b,(Value.slice FA fn fc).ownBlock=some b→V.heap.size≤b:=fun b O=>(a4.1.two.lt O).1;have bB:=aK ((a4.1.swap.grow b4 g2 cD).swap) g2 (N.on g2 fun O=>by have:=bN _ O;omega);have ba:=ae (aJ.1.on g2 fun b O=>by have:=bN b O;omega);have de:=ae bN;clear bD bE b5 b8 an ar;obtain⟨bD,bE,b5⟩:=bB.2.2.two;clear b4 g2 cD cP bN);generalize ah:World.setCell _ _ _=X;have cO:=bB.1;have bV:Fr (fun b=>b=g+1) bb X:=ah▸(Fr.refl (fun b=>b=g+1) bb).setCell (.inl rfl) _;have bz:ag X (g+1) 27 #[.slice none 0 0,.slice MA mn mc,.slice cl (fn+1) c3]:=ah▸bB.2.2.aH 2 _;have aU:=aK bz bV (cO.cZ bV fun b O _=>ad);clear ah cO bV bz bD bE b5;have y:=ba.on aU.2.1 fun b O=>ad;have bv:=y.pos;have bs:=aZ.2.2.2.2.2.2.2.2;have aF:=ae y;clear y;go_roundw
    case rel=>
     have cz:Fr (fun b=>b=g∨b=g+1) V X:=Fr.DC (M:=fun b=>(b=g∨b=g+1)∨(Value.slice FA fn fc).ownBlock=some b) (Fr.trans (Fr.trans (Fr.trans (Fr.mono aZ.2.1 fun _ h=>.inl h) (Fr.mono aJ.2 fun _ h=>.inl (.inl h))) (Fr.mono bB.2.1 fun _ h=>.inr h)) (Fr.mono aU.2.1 fun _ h=>.inl (.inr h))) fun b O hm=>hm.elim id fun hm=>absurd (de.o b hm) ad;refine⟨bZ,eL,MA,mn,mc,cl,fn+1,c3,am,bC,a2++[⟨strOf t.text,[],d3 ls⟩],bW,aF.o,cz,aU.1,by rw[Gi];exact aU.2.2,j.2.2.2.2.2.2.1,aZ.2.2.2.2.1,?_,aZ.2.2.2.2.2.2.1,?_⟩
     ·rw[←aZ.2.2.2.2.2.1,j.2.2.2.2.2.2.2];simp
     ·rw[aZ.2.2.2.2.2.2.2.1];simp
    case measure=>rw[bv,bs];have:=aF.lt;omega
 ):p:=h
end y9
open y9 in
theorem vE(s:ByteArray)(b o cap:Nat)(w:World)(ms:List bF)(fs:List aG)(a3:Nat)(h:eG w b o cap s)(hs:s.size≤4000)(hn:(db s.data.toList).1.length≤4001)(u:0<(db s.data.toList).1.length)(he:(db s.data.toList).2.2=0)(hp:jl (db s.data.toList).1 a3 0=some (ms,fs))(aC:ms.length≤12)(b2:fs.length≤16) :
  Calls prog 88 #[.slice (some ⟨b,o,none⟩) s.size cap] w fun e ab=>∃(MA:GR) (mn mc:Nat) (FA:GR) (fn fc:Nat) (z:Int),e=.returned (.tuple #[.agg #[.slice none 0 0,.slice MA mn mc,.slice FA fn fc],.int .i64 z,.int .i64 0])∧gr ab (fresh w ab) ⟨[],ms,fs⟩ none 0 MA mn FA fn∧mn≤mc∧fn≤fc∧Ext w ab:=by
 obtain⟨R,br⟩:∃R,R=db s.data.toList:=⟨_,rfl⟩
 rw[←br] at hn u he hp;obtain⟨T,z,cF⟩:=R;simp only at hn u he hp;subst he;have H:=cA h hp aC b2 br;clear h hp aC b2 br;go_enter func88,ntmps88;exact gA
end Go.Proofs.YtjhgbdckgkppnaaGreat
