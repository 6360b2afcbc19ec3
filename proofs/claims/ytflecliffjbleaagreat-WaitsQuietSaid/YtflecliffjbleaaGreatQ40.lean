/- Part 40 of the proof. No condition of its own. -/
import Derived.Test.YtflecliffjbleaaGreatQ30
import Derived.Test.YtflecliffjbleaaGreatQ39
namespace Go.Proofs.YtflecliffjbleaaGreat
open Go.RowKit Go.Proofs.Tryz
set_option maxRecDepth 1000000
set_option maxHeartbeats 25600000
set_option linter.unusedVariables false
variable{T:List Tok}{k:Nat}
def eC:List ax->ak
 | []=>.nil
 | .set v n e::l=>.set v n e (eC l)
 | .call g n aI::l=>.call g n aI (eC l)
 | .lock u r::l=>.lock u r (eC l)
 | .ite e th el::l=>.ite e th el (eC l)
 | .gp e th::l=>.gp e th (eC l)
 | .ret::l=>.ret (eC l)
theorem fB:∀l:List ax,cY (eC l)=l.map a9
 | []=>rfl
 | .set v n e::l=>by simp only[eC,cY,Lh,a9,fB l]
 | .call g n aI::l=>by simp only[eC,cY,Lh,a9,fB l]
 | .lock u r::l=>by simp only[eC,cY,Lh,a9,fB l]
 | .ite e th el::l=>by simp only[eC,cY,Lh,a9,fB l]
 | .gp e th::l=>by simp only[eC,cY,Lh,a9,fB l]
 | .ret::l=>by simp only[eC,cY,Lh,a9,fB l]
def kp(T:List Tok):Nat->Nat->Option (List bF×List aA)
 | 0,_=>none
 | f+1,k=>if tw 5 T k then some ([],[]) else match T[k+1]? with
  | none=>none
  | some t=>if t.kind=1 then
    if bX [109,117,116,101,120] T k && !bX [91] T (k+2) && bX [59] T (k+2) && decide (k+3<T.length) then (kp T f (k+3)).map λq=>(⟨strOf t.text,false,0⟩::q.1,q.2)
    else if bX [102,117,110,99] T k then
     (wy T (k+2)).bind λr=>if bX [123] T (eF (k+2) r) && decide (eF (k+2) r+1<T.length) then (jL T 100 (eF (k+2) r+1)).bind λs=>(kp T f s.2).map λq=>(q.1,⟨strOf t.text,r.map ko,eC s.1⟩::q.2) else none
    else none
   else none
theorem wM{f:Nat}{ms:List bF}{fs:List aA}(h:kp T f k=some (ms,fs)):(tw 5 T k=true/\ms=[]/\fs=[])\/(tw 5 T k=false/\∃(t:Tok) (f2:Nat),T[k+1]?=some t/\t.kind=1/\
  ((∃cU,bX [109,117,116,101,120] T k=true/\bX [91] T (k+2)=false/\bX [59] T (k+2)=true/\k+3<T.length/\kp T f2 (k+3)=some (cU,fs)/\ms=⟨strOf t.text,false,0⟩::cU)\/(∃r ls bJ a3,bX [102,117,110,99] T k=true/\yq T (k+2) r/\bX [123] T (eF (k+2) r)=true/\eF (k+2) r+1<T.length/\jL T 100 (eF (k+2) r+1)=some (ls,bJ)/\kp T f2 bJ=some (ms,a3)/\fs=⟨strOf t.text,r.map ko,eC ls⟩::a3))):=by
 cases f with
 | zero=>cases h
 | succ f=>
  unfold kp at h
  cases cd:tw 5 T k with
  | true=>
   rw[cd,if_pos rfl] at h;injection h with h;injection h with ae aD
   exact .inl ⟨rfl,ae.symm,aD.symm⟩
  | false=>
   rw[cd,if_neg (by simp)] at h;refine .inr ⟨rfl,?_⟩
   cases ht:T[k+1]? with
   | none=>rw[ht] at h;cases h
   | some t=>
    rw[ht] at h;simp only at h;split at h
    .rename_i br;refine⟨t,f,rfl,br,?_⟩;split at h
     .rename_i hc;simp only[Ln,Bool.not_eq_true',LI] at hc
      cases hp:kp T f (k+3) with
      | none=>rw[hp] at h;cases h
      | some q=>
       rw[hp] at h;injection h with h;injection h with ae aD;refine .inl ⟨q.1,hc.1.1.1,hc.1.1.2,hc.1.2,hc.2,?_,ae.symm⟩;rw[<-aD]
     .split at h
      .rename_i hc
       cases hl:wy T (k+2) with
       | none=>rw[hl] at h;cases h
       | some r=>
        rw[hl] at h;simp only[Option.bind_some] at h;split at h
        .rename_i O;simp only[Ln,LI] at O
         cases hs:jL T 100 (eF (k+2) r+1) with
         | none=>rw[hs] at h;cases h
         | some s=>
          rw[hs] at h;simp only[Option.bind_some] at h
          cases hp:kp T f s.2 with
          | none=>rw[hp] at h;cases h
          | some q=>
           rw[hp] at h;injection h with h;injection h with ae aD;refine .inr ⟨r,s.1,s.2,q.2,hc,uu hl,O.1,O.2,hs,?_,aD.symm⟩;rw[<-ae];exact hp
        .cases h
      .cases h
    .cases h
theorem va{T:List Tok}:∀(f k:Nat) (ls:List ax) (F:Nat),jL T f k=some (ls,F)->k<F
 | 0,_,_,_,h=>by cases h
 | f+1,k,ls,F,h=>by
  simp only[jL] at h;split at h
  .split at h
   .injection h with h;injection h with _ h;omega
   .cases h
  .cases hs:tu T k with
   | none=>rw[hs] at h;cases h
   | some p=>
    rw[hs] at h;simp only[Option.bind_some] at h
    cases br:jL T f p.2 with
    | none=>rw[br] at h;cases h
    | some q=>
     rw[br] at h;injection h with h;injection h with _ h;have ae:=va f p.2 q.1 q.2 br;have aD:=yi (show tu T k=some (p.1,p.2) from hs);omega
theorem Hf:ca prog 68 137 (.agg #[.string ⟨#[]⟩,.slice none 0 0,.slice none 0 0]) 3 64:=ca.mk' Tryz.underlying68 (by kernel_rfl) rfl ab
theorem Fr.GU{M M':Nat->Prop}{a b:World}(h:Fr M a b)(hM:∀k,k<a.heap.size->M k->M' k):Fr M' a b:=⟨h.os,h.tape,h.output,h.size,λk ai hn=>h.block k ai λhm=>hn (hM k ai hm)⟩
def DX(g:Nat)(w:World):Nat:=match w.cell? ⟨g,1,none⟩ with|some (.int _ z)=>z.toNat|_=>0
theorem bu.pos{w:World}{g:Nat}{A:LP}{n c:Nat}{deep:Nat}(h:bu w g A n c T k deep):DX g w=k:=by
 unfold DX;rw[h.blk.cell];rfl
namespace Cr
theorem jU{p:Prop}(h:p:=by
 generalize hX:World.setCell _ _ _=X;have cH:=bY.1;have b1:=dj hX;have bw:an X (g+1) 70 #[.slice none 0 0,.slice ck (mn+1) c3,.slice FA fn fc]:=hX▸bY.2.2.aD 1 _;have aR:=aL bw b1 (cH.cS b1 λb O _=>ab);clear hX cH b1 bw bs a7 bS;have P:=a8.on aR.2.1 λb O=>ab;have bV:=P.pos;have bT:=aZ.2.2.2.2.2.2.2.2;have j:=ad P;clear P;go_roundw
 case rel=>
  have bO:Fr (λb=>b=g\/b=g+1) V X:=Fr.GU (M:=λb=>(b=g\/b=g+1)\/(Value.slice MA mn mc).ownBlock=some b) (Fr.trans (Fr.trans (Fr.trans (Fr.mono aZ.2.1 λ_ h=>.inl h) (Fr.mono aw.2 λ_ h=>.inl (.inl h))) (Fr.mono bY.2.1 λ_ h=>.inr h)) (Fr.mono aR.2.1 λ_ h=>.inl (.inr h))) λb O hm=>hm.elim id λhm=>absurd (ci.o b hm) ab
  iterate 101 apply Exists.intro
  refine⟨⟨k+3,f2,ck,mn+1,c3,FA,fn,fc,am++[⟨strOf t.text,false,0⟩],cp,ao,a3,j.o,bO,aR.1,by rw[Li];exact aR.2.2,U.2.2.2.2.1,?_,aZ.2.2.2.2.2.1,?_,aZ.2.2.2.2.2.2.2.1⟩,rfl⟩
  .rw[<-aZ.2.2.2.2.1,U.2.2.2.2.2];simp
  .rw[aZ.2.2.2.2.2.2.1];simp
 case measure=>rw[bV,bT];have:=j.lt;omega
 ):p:=h
end Cr
open Cr in
theorem y2(s:ByteArray)(b o cap:Nat)(w:World)(ms:List bF)(fs:List aA)(bd:Nat)(h:fb w b o cap s)(hs:s.size<=4000)(hn:(dH s.data.toList).1.length<=4001)(cv:0<(dH s.data.toList).1.length)(he:(dH s.data.toList).2.2=0)(hp:kp (dH s.data.toList).1 bd 0=some (ms,fs))(cf:ms.length<=12)(cn:fs.length<=16) :
  Calls prog 31 #[.slice (some ⟨b,o,none⟩) s.size cap] w λe ac=>∃(MA:LP) (mn mc:Nat) (FA:LP) (fn fc:Nat) (z:Int),e=.returned (.tuple #[.agg #[.slice none 0 0,.slice MA mn mc,.slice FA fn fc],.int .i64 z,.int .i64 0])/\hh ac (fresh w ac) ⟨[],ms,fs⟩ none 0 MA mn FA fn/\mn<=mc/\fn<=fc/\Ext w ac:=by
 obtain⟨R,bP⟩:∃R,R=dH s.data.toList:=⟨_,rfl⟩
 rw[<-bP] at hn cv he hp;obtain⟨T,z,cV⟩:=R;simp only at hn cv he hp;subst he;have H:=dq h hp cf cn bP;clear h hp cf cn bP;go_enter func31,ntmps31;go_upto_region 1 with(fail);generalize be:World.alloc _ _=W;have aE:=bb be;have cg:=aT be;have aH:=ah aE cg;have cE:=cg.lt;clear be aE cg;go_wp2_with(fail);refine(show Calls prog 58 _ W (kv W (T,z,0)) by rw[H.2.2.2.2];exact x0 s b o cap W (H.1.on aH.1) ab).mono ?_;rintro e aP ⟨A,n,c,rfl,aI,dG,bL⟩;have aF:Ext W aP:=Fr.of bL;have bj:n=T.length:=dG.1.symm;have cP:n<=4001:=by rw[bj];exact hn
 have cl:0<n:=by rw[bj];exact cv
 have H1:=aL aF dG bj;have b6:=aF.size;clear hn cv bL aF dG bj aI;go_upto_region 5 with(fail);generalize hV:World.alloc _ _=V;have bm:=im hV;have dD:=fU hV;have eJ:=fL hV;obtain⟨g,aK⟩:∃g,g=aP.heap.size:=⟨_,rfl⟩
 rw[<-aK] at dD eJ ⊢;have b4:bu V g A n c T 0 0:=⟨dD,(H1.2.1.cS (Fr.ext bm) bm.size).gf (Below.refl _ _) |> λh=>by
  rw[aK];exact H1.2.1.gf (Fr.ext bm),cl,cP⟩
 have ch:=bG b4 eJ bm aK;have cw:=eJ.lt;have el:W.heap.size<=g:=ab;clear hV bm dD eJ b4 aK;go_wp2_with(fail);go_loopw [78] (λ_ wr=>∃(k bd:Nat) (MA:LP) (mn mc:Nat) (FA:LP) (fn fc:Nat) (am cU:List bF) (ao a3:List aA),bu wr g A n c T k 0/\Fr (λb=>b=g\/b=g+1) V wr/\an wr (g+1) 70 #[.slice none 0 0,.slice MA mn mc,.slice FA fn fc]/\lG V.heap.size 131 3 137 3 wr MA mn mc (am.map ek) FA fn fc (ao.map dr)/\kp T bd k=some (cU,a3)/\am++cU=ms/\ao++a3=fs/\mn=am.length/\fn=ao.length) (λ_ wr=>4001 - DX g wr)
 case atStart=>exact⟨0,bd,none,0,0,none,0,0,[],ms,[],fs,ch.1,LL,ch.2.1,lG.nil _ _ _ _ _ _,H.2.1,rfl,rfl,rfl,rfl⟩
 case round=>
  obtain⟨k,cT,MA,mn,mc,FA,fn,fc,am,cU,ao,a3,aY,hF,aN,hG,aU,aJ,az,eM,bD⟩:=hrel;have aW:=aY.lt;have cf:am.length+cU.length<=12:=by have:=H.2.2.1;rw[<-aJ,Ld] at this;exact this
  have cn:ao.length+a3.length<=16:=by have:=H.2.2.2.1;rw[<-az,Ld] at this;exact this
  have u:=aY.pos;have aZ:=xv aY hF aN hG aJ az eM bD u;have eT:=hF.size;obtain⟨a0,ap,aj⟩:=aY.blk.two;rcases wM aU with⟨cd,cN,cS⟩|⟨cd,t,f2,ht,br,cA⟩
  .have bU:=aL cd cN cS;clear cd cN cS aY hF aN hG aJ az aU cf cn eM bD u;go_wp2_with(fail);refine(pd 5 g A n c T k 0 wr aZ.1).mono ?_;rintro e aV ⟨rfl,a2⟩;rw[bU.1];have bt:=ad a2;clear a0 ap aj;obtain⟨a0,ap,aj⟩:=(aZ.1.blk.aj a2).two;obtain⟨bs,a7,bS⟩:=(aZ.2.2.1.aj a2).two;have aa:Ext W aV:=Fr.low (M:=λb=>b=g\/b=g+1) (Fr.trans (Fr.mono (H1.1.trans ch.2.2.1) λ_ h=>h.elim) (Fr.trans aZ.2.1 (Fr.mono a2 λ_ h=>h.elim))) λb O=>ab;have Q:=aH.2.aj aa;have a5:=ah Q (aH.1.trans aa);obtain⟨bE,bg,bh⟩:=Q.two;have bv:=a2.size;clear a2 aa Q;go_wp2_with(fail);generalize hX:World.setCell _ _ _=Z;obtain⟨bH,bn,bC⟩:=cm (w:=w) [.slice none 0 0,.slice MA mn mc,.slice FA fn fc] (by rfl) a5.1 a5.2 ab hX;have bc:=ah bn bC;clear hX bn bC bE bg bh a0 ap aj bs a7 bS;obtain⟨bE,bg,bh⟩:=bH.two;refine LK (v:=.tuple #[.agg #[.slice none 0 0,.slice MA mn mc,.slice FA fn fc],.int .i64 z,.int .i64 0]) (by simp[results,Tryz.results31,go_sem,bE]) rfl ?_;have hm:am=ms:=by have:=aZ.2.2.2.2.1;rw[bU.2.1,LC] at this;exact this
   have J:ao=fs:=by have:=aZ.2.2.2.2.2.1;rw[bU.2.2,LC] at this;exact this
   have L:=aZ.2.2.2.1.aj bt.o;have bB:=bc.2.size;have bK:=L.cS bc.2 λb O _=>by have:=ch.2.2.1.size;omega
   rw[hm,J] at bK;have cW:=ch.2.2.1.size;exact⟨MA,mn,mc,FA,fn,fc,z,rfl,⟨Sl.bN _,bK.one.sl (λb ae aD=>⟨by have:=aD.1;omega,ae⟩) (λb ae aD=>⟨ab,ae⟩),bK.two.sl (λb ae aD=>⟨by have:=aD.1;omega,ae⟩) (λb ae aD=>⟨ab,ae⟩)⟩,bK.one.cap.1,bK.two.cap.1,bc.1⟩
  .rcases cA with⟨cp,c4,c6,cQ,cb,ce,cr⟩|⟨r,ls,bJ,cj,c4,c6,cb,ce,cr,d8,cB⟩
   ·
    have cz:T.length<=n:=Nat.le_of_eq H1.2.2.symm;have bR:cU.length=cp.length+1:=by rw[cr];rfl
    have b2:mn<=11:=ab;have cK:((mn:Int) == 12)=false:=by simp;omega
    have er:k+3<n:=ab;have cy:=ad cd;have S:=aL c4 (show bX [118,97,114] T k=false from e6 c4 (by decide)) (show bX [102,117,110,99] T k=false from e6 c4 (by decide));have U:=ej ht br c6 cQ ce cr;clear aY hF aN hG aJ az aU eM bD u cd c4 c6 cQ cb ce cr ht br bR cf cn;have bq:g+1≠g:=ab;go_wp2_with(fail);refine(pd 5 g A n c T k 0 wr aZ.1).mono ?_;rintro e v0 ⟨rfl,a2⟩;rw[cy.o];have ba:=ah (aZ.1.aj a2) (a2.mono (M':=λb=>b=g) λ_ h=>h.elim);clear a2 a0 ap aj;go_wp2_with(fail);refine(show Calls prog 60 #[.pointer (some ⟨g,0,none⟩),.string ⟨#[118,97,114]⟩] v0 _ from lS [118,97,114] g A n c T (k) 0 v0 ba.1).mono ?_;rintro e v1 ⟨rfl,aE⟩;rw[S.2.1];have ax:=ah (ba.1.aj aE) (ba.2.trans (aE.mono (M':=λb=>b=g) λ_ h=>h.elim));clear aE;go_wp2_with(fail);refine(show Calls prog 60 #[.pointer (some ⟨g,0,none⟩),.string ⟨#[109,117,116,101,120]⟩] v1 _ from lS [109,117,116,101,120] g A n c T (k) 0 v1 ax.1).mono ?_;rintro e v2 ⟨rfl,aE⟩;rw[S.1];have af:=ah (ax.1.aj aE) (ax.2.trans (aE.mono (M':=λb=>b=g) λ_ h=>h.elim));clear aE;go_wp2_with(fail);refine(show Calls prog 60 #[.pointer (some ⟨g,0,none⟩),.string ⟨#[102,117,110,99]⟩] v2 _ from lS [102,117,110,99] g A n c T (k) 0 v2 af.1).mono ?_;rintro e bz ⟨rfl,aE⟩;rw[S.2.2];have aQ:=ah (af.1.aj aE) (af.2.trans (aE.mono (M':=λb=>b=g) λ_ h=>h.elim));clear aE;obtain⟨bs,a7,bS⟩:=(aZ.2.2.1.on aQ.2 ab).two;go_wp2_with(fail)
    refine(show Calls prog 62 #[.pointer (some ⟨g,0,none⟩),.string ⟨#[118,97,114]⟩] bz _ from cq [118,97,114] g A n c T (k) 0 bz aQ.1 false S.2.1 (λh=>by cases h)).mono ?_;rintro e v4 ⟨rfl,aY,hF⟩;have bW:=ah (show bu v4 g A n c T (k) 0 from by simpa using aY) (aQ.2.trans hF);clear aY hF;clear bs a7 bS;go_wp2_with(fail);refine(show Calls prog 62 #[.pointer (some ⟨g,0,none⟩),.string ⟨#[109,117,116,101,120]⟩] v4 _ from cq [109,117,116,101,120] g A n c T (k) 0 v4 bW.1 true S.1 (λ_=>ab)).mono ?_;rintro e bi ⟨rfl,aY,hF⟩;have b3:=ah (show bu bi g A n c T (k+1) 0 from by simpa using aY) (bW.2.trans hF);clear aY hF;obtain⟨bs,a7,bS⟩:=(aZ.2.2.1.on b3.2 ab).two;go_upto_region 13 with(fail);refine eU (λb=>b=g) [(0,3),(1,0),(2,3),(3,1),(4,1),(5,2),(6,3),(7,2)] ?_;refine pf ?_;refine qF ?_;refine pf ?_;refine aO rfl (λK hK=>?_);go_simp;refine(D2 g A n c T (k+1) 0 bi.drew t (b3.1.aj (Fr.refl _ bi).drew) U.1 U.2.1 U.2.2.1 U.2.2.2.1 er).mono ?_;rintro e v6 ⟨rfl,aY,hF⟩;have aw:=ah (show bu v6 g A n c T (k+3) 0 from aY) (b3.2.trans (Fr.aQ hF));refine ei hK (hF) ?_;clear hK K;clear aY hF bs a7 bS;refine r9 ?_;have b8:=aZ.2.2.2.1.cS aw.2 λb O _=>ab;have bQ:=aw.2.size;have a1:=ad b8;have a6:=aZ.2.2.1.on aw.2 bq;have bl:=ad a6;clear b8 a6;refine aq rfl (λK hK=>?_);rw[if_pos (by rfl)];refine q2 l5 (.tmp 92) (.tmp 95) (by rfl) a1.one (d:=ek ⟨strOf t.text,false,0⟩) (cs:=#[.string (strOf t.text),.bool false,.int .i64 0]) (e4.2 rfl) (by rfl) (by rfl) (by rfl) ab ab ab ?_
    intro ck c3 bM b9 g2 cI cL;have aG:∀b,(Value.slice MA mn mc).ownBlock=some b->V.heap.size<=b:=λb O=>(a1.one.lt O).1;have bY:=aL (a1.grow b9 g2 cI) g2 (bl.on g2 λO=>by have:=aG _ O;omega);have a8:=ad (aw.1.on g2 λb O=>by have:=aG b O;omega);have ci:=ad aG;obtain⟨bs,a7,bS⟩:=bY.2.2.two;clear b9 g2 cI cL aG;exact l2
   ·
    have cz:T.length<=n:=Nat.le_of_eq H1.2.2.symm;have bR:a3.length=cj.length+1:=by rw[cB];rfl
    have bk:fn<=15:=ab;have cJ:((fn:Int) == 16)=false:=by simp;omega
    have he:k+4<=eF (k+2) r:=x3 _ _;have aS:eF (k+2) r+1<n:=ab;have co:=va _ _ _ _ cr;have cy:=ad cd;have S:=bG c4 (show bX [118,97,114] T k=false from e6 c4 (by decide)) (show bX [109,117,116,101,120] T k=false from e6 c4 (by decide)) (show bX [114,109,117,116,101,120] T k=false from e6 c4 (by decide));have U:=gY ht br c6 cb cr d8 cB;clear aY hF aN hG aJ az aU eM bD u cd c4 c6 cb ce cr d8 cB ht br bR cf cn;have bq:g+1≠g:=ab;go_wp2_with(fail);refine(pd 5 g A n c T k 0 wr aZ.1).mono ?_;rintro e v0 ⟨rfl,a2⟩;rw[cy.o];have ba:=ah (aZ.1.aj a2) (a2.mono (M':=λb=>b=g) λ_ h=>h.elim);clear a2 a0 ap aj;go_wp2_with(fail);refine(show Calls prog 60 #[.pointer (some ⟨g,0,none⟩),.string ⟨#[118,97,114]⟩] v0 _ from lS [118,97,114] g A n c T (k) 0 v0 ba.1).mono ?_;rintro e v1 ⟨rfl,aE⟩;rw[S.2.1];have ax:=ah (ba.1.aj aE) (ba.2.trans (aE.mono (M':=λb=>b=g) λ_ h=>h.elim));clear aE;go_wp2_with(fail);refine(show Calls prog 60 #[.pointer (some ⟨g,0,none⟩),.string ⟨#[109,117,116,101,120]⟩] v1 _ from lS [109,117,116,101,120] g A n c T (k) 0 v1 ax.1).mono ?_;rintro e v2 ⟨rfl,aE⟩;rw[S.2.2.1];have af:=ah (ax.1.aj aE) (ax.2.trans (aE.mono (M':=λb=>b=g) λ_ h=>h.elim));clear aE;go_wp2_with(fail);refine(show Calls prog 60 #[.pointer (some ⟨g,0,none⟩),.string ⟨#[114,109,117,116,101,120]⟩] v2 _ from lS [114,109,117,116,101,120] g A n c T (k) 0 v2 af.1).mono ?_;rintro e bz ⟨rfl,aE⟩;rw[S.2.2.2];have aQ:=ah (af.1.aj aE) (af.2.trans (aE.mono (M':=λb=>b=g) λ_ h=>h.elim))
    clear aE;go_wp2_with(fail);refine(show Calls prog 60 #[.pointer (some ⟨g,0,none⟩),.string ⟨#[102,117,110,99]⟩] bz _ from lS [102,117,110,99] g A n c T (k) 0 bz aQ.1).mono ?_;rintro e v4 ⟨rfl,aE⟩;rw[S.1];have bW:=ah (aQ.1.aj aE) (aQ.2.trans (aE.mono (M':=λb=>b=g) λ_ h=>h.elim));clear aE;obtain⟨bs,a7,bS⟩:=(aZ.2.2.1.on bW.2 ab).two;go_wp2_with(fail);refine(show Calls prog 62 #[.pointer (some ⟨g,0,none⟩),.string ⟨#[118,97,114]⟩] v4 _ from cq [118,97,114] g A n c T (k) 0 v4 bW.1 false S.2.1 (λh=>by cases h)).mono ?_;rintro e bi ⟨rfl,aY,hF⟩;have b3:=ah (show bu bi g A n c T (k) 0 from by simpa using aY) (bW.2.trans hF);clear aY hF;clear bs a7 bS;go_wp2_with(fail);refine(show Calls prog 62 #[.pointer (some ⟨g,0,none⟩),.string ⟨#[109,117,116,101,120]⟩] bi _ from cq [109,117,116,101,120] g A n c T (k) 0 bi b3.1 false S.2.2.1 (λh=>by cases h)).mono ?_;rintro e v6 ⟨rfl,aY,hF⟩;have aw:=ah (show bu v6 g A n c T (k) 0 from by simpa using aY) (b3.2.trans hF);clear aY hF;go_wp2_with(fail);refine(show Calls prog 62 #[.pointer (some ⟨g,0,none⟩),.string ⟨#[114,109,117,116,101,120]⟩] v6 _ from cq [114,109,117,116,101,120] g A n c T (k) 0 v6 aw.1 false S.2.2.2 (λh=>by cases h)).mono ?_;rintro e bM ⟨rfl,aY,hF⟩;have cD:=ah (show bu bM g A n c T (k) 0 from by simpa using aY) (aw.2.trans hF);clear aY hF;go_wp2_with(fail)
    refine(show Calls prog 62 #[.pointer (some ⟨g,0,none⟩),.string ⟨#[102,117,110,99]⟩] bM _ from cq [102,117,110,99] g A n c T (k) 0 bM cD.1 true S.1 (λ_=>ab)).mono ?_;rintro e bN ⟨rfl,aY,hF⟩;have cG:=ah (show bu bN g A n c T (k+1) 0 from by simpa using aY) (cD.2.trans hF);clear aY hF;go_wp2_with(fail);refine(m4 g A n c T (k+1) 0 bN t cG.1 U.1 U.2.1 ab).mono ?_;rintro e bA ⟨rfl,aY,hF⟩;have cx:=ah (show bu bA g A n c T (k+2) 0 from aY) (cG.2.trans hF);have cC:=cx.2.size;clear aY hF;go_upto_region 18 with(fail);generalize hX:World.alloc _ _=Z;have bn:=bb hX;have ak:=aT hX;have aM:=aL (cx.1.aj bn) (cx.2.trans (bn.mono (M':=λb=>b=g) λ_ h=>h.elim)) ak;have hQ:g<bA.heap.size:=cx.1.blk.lt;clear hX bn ak;go_wp2_with(fail);refine(wN g A n c T (k+2) 0 r Z aM.1 U.2.2.1 ab).mono ?_;rintro e v11 ⟨a4,m,l,rfl,hm,aY,hF,bo⟩;have ak:=aM.2.2.on hF ab;have b0:bA.heap.size<Z.heap.size:=aM.2.2.lt;have al:=dq aY (aM.2.1.trans hF) ak hm (bo.mono (bf:=λb=>bA.heap.size<b/\b<v11.heap.size) λb O=>⟨by have:=O.1;omega,O.2⟩);obtain⟨cu,y,ag⟩:=ak.two;clear aY hF ak hm bo b0;go_upto_region 19 with(fail);generalize hX:World.setCell _ _ _=Y;have ar:=dj hX;have ak:an Y bA.heap.size 137 #[.string (strOf t.text),.slice a4 m l,.slice none 0 0]:=hX▸al.2.2.1.aD 1 (.slice a4 m l);have bo:=(al.2.2.2.2.ai λb O=>ar.block b O.2 (aC O.1)).mono (bf:=λb=>bA.heap.size<b/\b<Y.heap.size) λb O=>⟨O.1,by have:=O.2;have:=ar.size;omega⟩
    have au:=dq (al.1.on ar λb O=>ab) (al.2.1.eI (ar.below al.2.1.size λk ai h=>ab)) ak al.2.2.2.1 bo;have cM:bA.heap.size<Y.heap.size:=ak.lt;clear hX ar ak cu y ag bo;go_wp2_with(fail);refine(D1 g A n c T (eF (k+2) r) 0 Y 100 ls bJ au.1 ab U.2.2.2.1 ab U.2.2.2.2.1).mono ?_;rintro e aX ⟨bx,on,bp,rfl,b7,ca,aY,hF⟩;have ak:=au.2.2.1.on hF ab;have bo:=(au.2.2.2.2.ai λb O=>hF.block b O.2 (aC O.1)).mono (bf:=λb=>bA.heap.size<b/\b<aX.heap.size) λb O=>⟨O.1,by have:=O.2;have:=hF.size;omega⟩
    have N:=gY aY (au.2.1.trans hF) ak b7 ca au.2.2.2.1 bo;have cO:=hF.size;obtain⟨cu,y,ag⟩:=ak.two;clear aY hF ak b7 ca bo;go_upto_region 20 with(fail);generalize hX:World.setCell _ _ _=g9;have ar:=dj hX;have ak:an g9 bA.heap.size 137 #[.string (strOf t.text),.slice a4 m l,.slice bx on bp]:=hX▸N.2.2.1.aD 2 (.slice bx on bp);have ay:Fr (λb=>b=g) wr g9:=N.2.1.eI (ar.below N.2.1.size λk ai h=>ab);have b8:=aZ.2.2.2.1.cS ay λb O _=>ab;have bQ:=ay.size;have cR:=ar.size;have bZ:Sl g9 (fresh Y aX) bx on (ls.map a9):=N.2.2.2.2.1.ai λb O=>ar.block b O.2 (aC O.1);have cF:∀b,(Value.slice MA mn mc).ownBlock=some b->b<wr.heap.size:=λb O=>(aZ.2.2.2.1.one.lt O).2;have av:∀b,(Value.slice FA fn fc).ownBlock=some b->b<wr.heap.size:=λb O=>(aZ.2.2.2.1.two.lt O).2;have cc:Sl g9 (λb=>bA.heap.size<b/\b<aX.heap.size) a4 m ((r.map ko).map ct):=N.2.2.2.2.2.2.ai λb O=>ar.block b O.2 (aC O.1);have b5:(dr ⟨strOf t.text,r.map ko,eC ls⟩).rep g9 (lu (λb=>V.heap.size<=b/\(Value.slice MA mn mc).ownBlock≠some b) g9 (.slice FA fn fc)) [.string (strOf t.text),.slice a4 m l,.slice bx on bp]:=
     la.2 ⟨a4,m,l,bx,on,bp,rfl,N.2.2.2.2.2.1,N.2.2.2.1,cc.mono λb O=>⟨⟨by have:=O.1;omega,λh=>by have:=cF b h;have:=O.1;omega⟩,by have:=O.2;omega,λh=>by have:=av b h;have:=O.1;omega⟩,by rw[fB];exact bZ.mono λb O=>⟨⟨by have:=O.1;omega,λh=>by have:=cF b h;have:=O.1;omega⟩,by have:=O.2;omega,λh=>by have:=av b h;have:=O.1;omega⟩⟩
    have a1:=ah b8 b5;have a6:=aZ.2.2.1.on ay bq;have bl:=ad a6;have aw:=ah (N.1.on ar λb O=>ab) ay;clear hX ar ay b8 bZ cc cF av b5 cu y ag;obtain⟨cu,y,ag⟩:=ak.two;obtain⟨bs,a7,bS⟩:=a6.two;clear ak a6;go_wp2_with(at_builtin;refine bI Hf rfl (.tmp 121) (.tmp 123) rfl a1.1.two (d:=dr ⟨strOf t.text,r.map ko,eC ls⟩) (cs:=#[.string (strOf t.text),.slice a4 m l,.slice bx on bp]) a1.2 rfl rfl rfl ab ab ab ?_;intro ck c3 bM b9 g2 cI cL;have aG:∀b,(Value.slice FA fn fc).ownBlock=some b->V.heap.size<=b:=λb O=>(a1.1.two.lt O).1;have bY:=aL ((a1.1.swap.grow b9 g2 cI).swap) g2 (bl.on g2 λO=>by have:=aG _ O;omega);have a8:=ad (aw.1.on g2 λb O=>by have:=aG b O;omega);have ci:=ad aG;clear bs a7 bS cu y ag;obtain⟨bs,a7,bS⟩:=bY.2.2.two;clear b9 g2 cI cL aG);generalize hX:World.setCell _ _ _=X;have cH:=bY.1;have b1:=dj hX;have bw:an X (g+1) 70 #[.slice none 0 0,.slice MA mn mc,.slice ck (fn+1) c3]:=hX▸bY.2.2.aD 2 _;have aR:=aL bw b1 (cH.cS b1 λb O _=>ab);clear hX cH b1 bw bs a7 bS;have P:=a8.on aR.2.1 λb O=>ab;have bV:=P.pos;have bT:=aZ.2.2.2.2.2.2.2.2;have j:=ad P;clear P;go_roundw
    case rel=>
     have bO:Fr (λb=>b=g\/b=g+1) V X:=Fr.GU (M:=λb=>(b=g\/b=g+1)\/(Value.slice FA fn fc).ownBlock=some b) (Fr.trans (Fr.trans (Fr.trans (Fr.mono aZ.2.1 λ_ h=>.inl h) (Fr.mono aw.2 λ_ h=>.inl (.inl h))) (Fr.mono bY.2.1 λ_ h=>.inr h)) (Fr.mono aR.2.1 λ_ h=>.inl (.inr h))) λb O hm=>hm.elim id λhm=>absurd (ci.o b hm) ab;refine⟨bJ,f2,MA,mn,mc,ck,fn+1,c3,am,cU,ao++[⟨strOf t.text,r.map ko,eC ls⟩],cj,j.o,bO,aR.1,by rw[Li];exact aR.2.2,U.2.2.2.2.2.1,aZ.2.2.2.2.1,?_,aZ.2.2.2.2.2.2.1,?_⟩
     .rw[<-aZ.2.2.2.2.2.1,U.2.2.2.2.2.2];simp
     .rw[aZ.2.2.2.2.2.2.2.1];simp
    case measure=>rw[bV,bT];have:=j.lt;omega
end Go.Proofs.YtflecliffjbleaaGreat
