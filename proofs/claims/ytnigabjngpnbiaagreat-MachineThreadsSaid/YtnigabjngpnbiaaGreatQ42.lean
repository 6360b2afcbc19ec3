/- Part 42 of the proof. No condition of its own. -/
import Derived.Test.YtnigabjngpnbiaaGreatQ24
import Derived.Test.YtnigabjngpnbiaaGreatQ39
import Derived.Test.YtnigabjngpnbiaaGreatQ40
import Derived.Test.YtnigabjngpnbiaaGreatQ41
namespace Go.Proofs.YtnigabjngpnbiaaGreat
open Go.RowKit Go.Proofs.Tryz
set_option maxRecDepth 1000000
set_option maxHeartbeats 25600000
set_option linter.unusedVariables false
variable{T:List Tok}{k:Nat}{p:Prop}
theorem Ii(p:bC)(hp:nE p):Hc p:=λf aA GA gn gc MA mn mc FA fn fc bo ln lc PA pn pc cW bn bc w h hl b3 bE=>
 (rn (λU nk F b=>w1 EM U nk F b) p hp f aA GA gn gc MA mn mc FA fn fc bo ln lc PA pn pc cW bn bc w h hl b3 bE).mono λ_ _ h=>h
theorem Dc(p:bC)(hp:nE p)(GA:Kj)(gn gc:Nat)(MA:Kj)(mn mc:Nat)(FA:Kj)(fn fc:Nat)(w:World)(h:fU w (ao w) p GA gn MA mn FA fn) :
  Calls prog 18 #[.agg #[.slice GA gn gc,.slice MA mn mc,.slice FA fn fc]] w (vE w (hY p)):=xi p hp (Ii p hp) GA gn gc MA mn mc FA fn fc w h
def cL:List aE->an
 | []=>.nil
 | .set v n e::l=>.set v n e (cL l)
 | .call g n aH::l=>.call g n aH (cL l)
 | .lock u r::l=>.lock u r (cL l)
 | .ite e th el::l=>.ite e th el (cL l)
 | .fL e th::l=>.fL e th (cL l)
 | .ret::l=>.ret (cL l)
theorem dN:∀l:List aE,dw (cL l)=l.map cc
 | []=>rfl
 | .set v n e::l=>by simp only[cL,dw,JO,cc,dN l]
 | .call g n aH::l=>by simp only[cL,dw,JO,cc,dN l]
 | .lock u r::l=>by simp only[cL,dw,JO,cc,dN l]
 | .ite e th el::l=>by simp only[cL,dw,JO,cc,dN l]
 | .fL e th::l=>by simp only[cL,dw,JO,cc,dN l]
 | .ret::l=>by simp only[cL,dw,JO,cc,dN l]
def jK(T:List Tok):Nat->Nat->Option (List bI×List a1)
 | 0,_=>none
 | f+1,k=>if jS 5 T k then some ([],[]) else match T[k+1]? with
  | none=>none
  | some t=>if t.kind=1 then
    if aN [109,117,116,101,120] T k && !aN [91] T (k+2) && aN [59] T (k+2) && decide (k+3<T.length) then (jK T f (k+3)).map λq=>(⟨strOf t.text,false,0⟩::q.1,q.2)
    else if aN [102,117,110,99] T k then
     (uw T (k+2)).bind λr=>if aN [123] T (ed (k+2) r) && decide (ed (k+2) r+1<T.length) then (iZ T 100 (ed (k+2) r+1)).bind λs=>(jK T f s.2).map λq=>(q.1,⟨strOf t.text,r.map jJ,cL s.1⟩::q.2) else none
    else none
   else none
theorem uL{f:Nat}{ms:List bI}{fs:List a1}(h:jK T f k=some (ms,fs)):(jS 5 T k=true/\ms=[]/\fs=[])\/(jS 5 T k=false/\∃(t:Tok) (f2:Nat),T[k+1]?=some t/\t.kind=1/\
  ((∃b5,aN [109,117,116,101,120] T k=true/\aN [91] T (k+2)=false/\aN [59] T (k+2)=true/\k+3<T.length/\jK T f2 (k+3)=some (b5,fs)/\ms=⟨strOf t.text,false,0⟩::b5)\/(∃r ls bE bB,aN [102,117,110,99] T k=true/\wS T (k+2) r/\aN [123] T (ed (k+2) r)=true/\ed (k+2) r+1<T.length/\iZ T 100 (ed (k+2) r+1)=some (ls,bE)/\jK T f2 bE=some (ms,bB)/\fs=⟨strOf t.text,r.map jJ,cL ls⟩::bB))):=by
 cases f with
 | zero=>cases h
 | succ f=>
  unfold jK at h
  cases cl:jS 5 T k with
  | true=>
   rw[cl,if_pos rfl] at h;injection h with h;injection h with ac ap
   exact .inl ⟨rfl,ac.symm,ap.symm⟩
  | false=>
   rw[cl,if_neg (by simp)] at h;refine .inr ⟨rfl,?_⟩
   cases ht:T[k+1]? with
   | none=>rw[ht] at h;cases h
   | some t=>
    rw[ht] at h;simp only at h;split at h
    .rename_i bx;refine⟨t,f,rfl,bx,?_⟩;split at h
     .rename_i hc;simp only[JU,Bool.not_eq_true',Kc] at hc
      cases hp:jK T f (k+3) with
      | none=>rw[hp] at h;cases h
      | some q=>
       rw[hp] at h;injection h with h;injection h with ac ap;refine .inl ⟨q.1,hc.1.1.1,hc.1.1.2,hc.1.2,hc.2,?_,ac.symm⟩;rw[<-ap]
     .split at h
      .rename_i hc
       cases hl:uw T (k+2) with
       | none=>rw[hl] at h;cases h
       | some r=>
        rw[hl] at h;simp only[Option.bind_some] at h;split at h
        .rename_i O;simp only[JU,Kc] at O
         cases hs:iZ T 100 (ed (k+2) r+1) with
         | none=>rw[hs] at h;cases h
         | some s=>
          rw[hs] at h;simp only[Option.bind_some] at h
          cases hp:jK T f s.2 with
          | none=>rw[hp] at h;cases h
          | some q=>
           rw[hp] at h;injection h with h;injection h with ac ap;refine .inr ⟨r,s.1,s.2,q.2,hc,oy hl,O.1,O.2,hs,?_,ap.symm⟩;rw[<-ac];exact hp
        .cases h
      .cases h
    .cases h
theorem s4{T:List Tok}:∀(f k:Nat) (ls:List aE) (u:Nat),iZ T f k=some (ls,u)->k<u
 | 0,_,_,_,h=>by cases h
 | f+1,k,ls,u,h=>by
  simp only[iZ] at h;split at h
  .split at h
   .injection h with h;injection h with _ h;omega
   .cases h
  .cases hs:rJ T k with
   | none=>rw[hs] at h;cases h
   | some p=>
    rw[hs] at h;simp only[Option.bind_some] at h
    cases bx:iZ T f p.2 with
    | none=>rw[bx] at h;cases h
    | some q=>
     rw[bx] at h;injection h with h;injection h with _ h;have ac:=s4 f p.2 q.1 q.2 bx;have ap:=wF (show rJ T k=some (p.1,p.2) from hs);omega
theorem Cs:cA prog 42 123 (.agg #[.string ⟨#[]⟩,.slice none 0 0,.slice none 0 0]) 3 64:=cA.mk' Tryz.underlying42 (by kernel_rfl) rfl ad
theorem Fr.F3{M M':Nat->Prop}{a b:World}(h:Fr M a b)(hM:∀k,k<a.heap.size->M k->M' k):Fr M' a b:=⟨h.os,h.tape,h.output,h.size,λk aj hn=>h.block k aj λhm=>hn (hM k aj hm)⟩
def wx(g:Nat)(w:World):Nat:=match w.cell? ⟨g,1,none⟩ with|some (.int _ z)=>z.toNat|_=>0
theorem aH.pos{w:World}{g:Nat}{A:Kj}{n c:Nat}{deep:Nat}(h:aH w g A n c T k deep):wx g w=k:=by
 unfold wx;rw[h.blk.cell];rfl
namespace Be
theorem zy(h:p:=by
 refine⟨bE,f2,MA,mn,mc,bU,fn+1,c3,am,b5,bs++[⟨strOf t.text,r.map jJ,cL ls⟩],b6,bH.o,y,aJ.1,by rw[JP];exact aJ.2.2,aI.2.2.2.2.2.1,a2.2.2.2.2.1,?_,a2.2.2.2.2.2.2.1,?_⟩
 .rw[<-a2.2.2.2.2.2.1,aI.2.2.2.2.2.2];simp
 .rw[a2.2.2.2.2.2.2.2.1];simp
 ):p:=h
theorem z6(h:p:=by
 go_wp2_with(at_builtin;refine cn Cs rfl (.tmp 121) (.tmp 123) rfl ao.1.two (d:=fA ⟨strOf t.text,r.map jJ,cL ls⟩) (cs:=#[.string (strOf t.text),.slice bW m l,.slice Q on P]) ao.2 rfl rfl rfl ad ad ad ?_;intro bU c3 bD bX g2 cv cR;have bc:∀b,(Value.slice FA fn fc).ownBlock=some b->V.heap.size<=b:=λb O=>(ao.1.two.lt O).1;have bN:=av ((ao.1.swap.grow bX g2 cv).swap) g2 (bv.on g2 λO=>by have:=bc _ O;omega);have ca:=ae (aB.1.on g2 λb O=>by have:=bc b O;omega);have bi:=ae bc;clear bl U aE cD aQ aR;obtain⟨bl,U,aE⟩:=bN.2.2.two;clear bX g2 cv cR bc);generalize hX:World.setCell _ _ _=X;have bG:=bN.1;have bM:=da hX;have a6:au X (g+1) 44 #[.slice none 0 0,.slice MA mn mc,.slice bU (fn+1) c3]:=hX▸bN.2.2.bH 2 _;exact Al
 ):p:=h
theorem yL(h:p:=by
 have b0:Sl ce (λb=>bf.heap.size<b/\b<cf.heap.size) bW m ((r.map jJ).map dU):=u.2.2.2.2.2.2.al λb O=>L.block b O.2 (aC O.1);have cx:(fA ⟨strOf t.text,r.map jJ,cL ls⟩).rep ce (mS (λb=>V.heap.size<=b/\(Value.slice MA mn mc).ownBlock≠some b) ce (.slice FA fn fc)) [.string (strOf t.text),.slice bW m l,.slice Q on P]:=
  iK.2 ⟨bW,m,l,Q,on,P,rfl,u.2.2.2.2.2.1,u.2.2.2.1,b0.mono λb O=>⟨⟨by have:=O.1;omega,λh=>by have:=ah b h;have:=O.1;omega⟩,by have:=O.2;omega,λh=>by have:=bw b h;have:=O.1;omega⟩,by rw[dN];exact cj.mono λb O=>⟨⟨by have:=O.1;omega,λh=>by have:=ah b h;have:=O.1;omega⟩,by have:=O.2;omega,λh=>by have:=bw b h;have:=O.1;omega⟩⟩
 exact z5
 ):p:=h
theorem yS(h:p:=by
 refine(Dt g A n c T (ed (k+2) r) 0 Y 100 ls bE be.1 ad aI.2.2.2.1 ad aI.2.2.2.2.1).mono ?_;exact yK
 ):p:=h
theorem zb(h:p:=by
 refine(oQ g A n c T (k+2) 0 r Z aq.1 aI.2.2.1 ad).mono ?_;exact yR
 ):p:=h
theorem yD(h:p:=by
 exact za
 ):p:=h
theorem zU(h:p:=by
 clear S hF aK hG bC bL aD a3 bQ aa cl cQ cz bA cJ cw cZ cM ht bx bd bS b3;exact Ap
 ):p:=h
theorem zn(h:p:=by
 refine⟨⟨k+3,f2,bU,mn+1,c3,FA,fn,fc,am++[⟨strOf t.text,false,0⟩],b7,bs,bB,bH.o,y,aJ.1,by rw[JP];exact aJ.2.2,aI.2.2.2.2.1,?_,a2.2.2.2.2.2.1,?_,a2.2.2.2.2.2.2.2.1⟩,rfl⟩
 .rw[<-a2.2.2.2.2.1,aI.2.2.2.2.2];simp
 .rw[a2.2.2.2.2.2.2.1];simp
 ):p:=h
theorem y7(h:p:=by
 have a6:au X (g+1) 44 #[.slice none 0 0,.slice bU (mn+1) c3,.slice FA fn fc]:=hX▸bN.2.2.bH 1 _;exact Am
 ):p:=h
theorem zt(h:p:=by
 refine pt q8 (.tmp 92) (.tmp 95) (by rfl) ao.one (d:=eL ⟨strOf t.text,false,0⟩) (cs:=#[.string (strOf t.text),.bool false,.int .i64 0]) (ih.2 rfl) (by rfl) (by rfl) (by rfl) ad ad ad ?_;exact y6
 ):p:=h
theorem yW(h:p:=by
 rw[bp.1];have aw:=ak (ay.1.aj ar) (ay.2.trans (ar.mono (M':=λb=>b=g) λ_ h=>h.elim));clear ar;go_wp2_with(fail);refine(show Calls prog 48 #[.pointer (some ⟨g,0,none⟩),.string ⟨#[102,117,110,99]⟩] v2 _ from iX [102,117,110,99] g A n c T (k) 0 v2 aw.1).mono ?_;rintro e ax ⟨rfl,ar⟩;rw[bp.2.2];have aX:=ak (aw.1.aj ar) (aw.2.trans (ar.mono (M':=λb=>b=g) λ_ h=>h.elim));clear ar;obtain⟨bl,U,aE⟩:=(a2.2.2.1.on aX.2 ad).two;go_wp2_with(fail);refine(show Calls prog 50 #[.pointer (some ⟨g,0,none⟩),.string ⟨#[118,97,114]⟩] ax _ from aW [118,97,114] g A n c T (k) 0 ax aX.1 false bp.2.1 (λh=>by cases h)).mono ?_;rintro e v4 ⟨rfl,S,hF⟩;have bg:=ak (show aH v4 g A n c T (k) 0 from by simpa using S) (aX.2.trans hF);clear S hF;clear bl U aE;go_wp2_with(fail);refine(show Calls prog 50 #[.pointer (some ⟨g,0,none⟩),.string ⟨#[109,117,116,101,120]⟩] v4 _ from aW [109,117,116,101,120] g A n c T (k) 0 v4 bg.1 true bp.1 (λ_=>ad)).mono ?_;rintro e aU ⟨rfl,S,hF⟩;have bo:=ak (show aH aU g A n c T (k+1) 0 from by simpa using S) (bg.2.trans hF);clear S hF;obtain⟨bl,U,aE⟩:=(a2.2.2.1.on bo.2 ad).two;go_upto_region 13 with(fail);refine fj (λb=>b=g) [(0,3),(1,0),(2,3),(3,1),(4,1),(5,2),(6,3),(7,2)] ?_;refine pf ?_;refine pK ?_;refine pf ?_;refine aP rfl (λK hK=>?_);go_simp;refine(Du g A n c T (k+1) 0 aU.drew t (bo.1.aj (Fr.refl _ aU).drew) aI.1 aI.2.1 aI.2.2.1 aI.2.2.2.1 eE).mono ?_;exact zs
 ):p:=h
theorem yM(h:p:=by
 rw[bp.2.1];exact yV
 ):p:=h
theorem zG(h:p:=by
 exact⟨MA,mn,mc,FA,fn,fc,z,rfl,⟨Sl.c7 _,bb.one.sl (λb ac ap=>⟨by have:=ap.1;omega,ac⟩) (λb ac ap=>⟨ad,ac⟩),bb.two.sl (λb ac ap=>⟨by have:=ap.1;omega,ac⟩) (λb ac ap=>⟨ad,ac⟩)⟩,bb.one.cap.1,bb.two.cap.1,bn.1⟩
 ):p:=h
theorem y1(h:p:=by
 obtain⟨bq,a5,a4⟩:=bk (w:=w) [.slice none 0 0,.slice MA mn mc,.slice FA fn fc] (by rfl) N.1 N.2 ad hX;have bn:=ak a5 a4;clear hX a5 a4 bh an aM a0 al af bl U aE;obtain⟨bh,an,aM⟩:=bq.two;refine Ke (v:=.tuple #[.agg #[.slice none 0 0,.slice MA mn mc,.slice FA fn fc],.int .i64 z,.int .i64 0]) (by simp[results,Tryz.results17,go_sem,bh]) rfl ?_;exact zF
 ):p:=h
theorem Ag(h:p:=by
 rcases uL aD with⟨cl,cB,cm⟩|⟨cl,t,f2,ht,bx,cE⟩
 .have br:=av cl cB cm;exact y0
 .rcases cE with⟨b7,cQ,cz,bu,bA,cJ,cw⟩|⟨r,ls,bE,b6,cQ,cz,bA,cJ,cw,cZ,cM⟩
  ·
   have cu:T.length<=n:=Nat.le_of_eq H1.2.2.symm;have bd:b5.length=b7.length+1:=by rw[cw];rfl
   have cb:mn<=11:=ad;have cV:((mn:Int) == 12)=false:=by simp;omega
   have eE:k+3<n:=ad;have cY:=ae cl;have bp:=av cQ (show aN [118,97,114] T k=false from cI cQ (by decide)) (show aN [102,117,110,99] T k=false from cI cQ (by decide));exact Au
  ·
   have cu:T.length<=n:=Nat.le_of_eq H1.2.2.symm;have bd:bB.length=b6.length+1:=by rw[cM];rfl
   have cy:fn<=15:=ad;have cU:((fn:Int) == 16)=false:=by simp;omega
   have he:k+4<=ed (k+2) r:=wi _ _;have cA:ed (k+2) r+1<n:=ad;have b4:=s4 _ _ _ _ cw;exact zT
 ):p:=h
theorem yH(h:p:=by
 go_loopw [78] (λ_ wr=>∃(k b8:Nat) (MA:Kj) (mn mc:Nat) (FA:Kj) (fn fc:Nat) (am b5:List bI) (bs bB:List a1),aH wr g A n c T k 0/\Fr (λb=>b=g\/b=g+1) V wr/\au wr (g+1) 44 #[.slice none 0 0,.slice MA mn mc,.slice FA fn fc]/\lu V.heap.size 117 3 123 3 wr MA mn mc (am.map eL) FA fn fc (bs.map fA)/\jK T b8 k=some (b5,bB)/\am++b5=ms/\bs++bB=fs/\mn=am.length/\fn=bs.length) (λ_ wr=>4001 - wx g wr)
 case atStart=>exact⟨0,b8,none,0,0,none,0,0,[],ms,[],fs,bR.1,Kf,bR.2.1,lu.nil _ _ _ _ _ _,H.2.1,rfl,rfl,rfl,rfl⟩
 case round=>
  obtain⟨k,cp,MA,mn,mc,FA,fn,fc,am,b5,bs,bB,S,hF,aK,hG,aD,bC,bL,a3,bQ⟩:=hrel;have aT:=S.lt;have bS:am.length+b5.length<=12:=by have:=H.2.2.1;rw[<-bC,JK] at this;exact this
  exact Af
 ):p:=h
end Be
open Be in
theorem xp(s:ByteArray)(b o cap:Nat)(w:World)(ms:List bI)(fs:List a1)(b8:Nat)(h:eG w b o cap s)(hs:s.size<=4000)(hn:(cd s.data.toList).1.length<=4001)(ai:0<(cd s.data.toList).1.length)(he:(cd s.data.toList).2.2=0)(hp:jK (cd s.data.toList).1 b8 0=some (ms,fs))(bS:ms.length<=12)(b3:fs.length<=16) :
  Calls prog 17 #[.slice (some ⟨b,o,none⟩) s.size cap] w λe J=>∃(MA:Kj) (mn mc:Nat) (FA:Kj) (fn fc:Nat) (z:Int),e=.returned (.tuple #[.agg #[.slice none 0 0,.slice MA mn mc,.slice FA fn fc],.int .i64 z,.int .i64 0])/\fU J (fresh w J) ⟨[],ms,fs⟩ none 0 MA mn FA fn/\mn<=mc/\fn<=fc/\Ext w J:=by
 exact yG
def aw:ByteArray:=⟨#[109,117,116,101,120,32,97,59,32,102,117,110,99,32,109,97,105,110,40,41,32,123,32,108,111,99,107,32,97,59,32,108,111,99,107,32,97,59,32,125]⟩
def Gw:ByteArray:=strOf [97]
def DS:bC:=⟨[],[⟨Gw,false,0⟩],[⟨strOf [109,97,105,110],[],.lock false ⟨Gw,none⟩ (.lock false ⟨Gw,none⟩ .nil)⟩]⟩
theorem tS:(cd aw.data.toList).1.length<=4001/\0<(cd aw.data.toList).1.length/\(cd aw.data.toList).2.2=0:=by decide +kernel
theorem D5:jK (cd aw.data.toList).1 10 0=some (DS.af,DS.funcs):=by rfl
theorem FT:nE DS:=by
 refine⟨?_,?_,by decide,by decide,by decide,?_,?_,?_,⟨0,_,rfl,rfl,rfl⟩,by decide⟩
 .decide
 .decide
 .decide
 .decide
 .intro f aA;simp only[DS,J9] at aA;subst aA;refine⟨by decide,by decide,by decide,?_⟩;have aZ:wL (kI DS ⟨strOf [109,97,105,110],[],.lock false ⟨Gw,none⟩ (.lock false ⟨Gw,none⟩ .nil)⟩) (gU DS++hR []) ⟨Gw,none⟩:=.inl ⟨⟨Gw,false,0⟩,by simp[kI,DS],rfl,λh=>absurd h (by decide),λ_=>rfl⟩;exact⟨aZ,aZ,trivial⟩
def pE:ay:=hY DS
theorem iv:xX pE:=⟨wg FT,wh DS⟩
def ma:ah:=(bM pE (dI pE) 0).1
theorem Gx:(bM pE (dI pE) 0).2=true:=by decide +kernel
theorem Cx:(bM pE ma 0).2=false:=by decide +kernel
theorem Cw:ma.table=[⟨1,1⟩]:=by rfl
theorem tR:aV pE 1 ma:=s3 iv.ok (nw iv.ok)
namespace BR
theorem q0(h:p:=by
 go_enter func79,ntmps79;exact qN
 ):p:=h
end BR
open BR in
theorem ub(A bg:Kj)(n c n2 c2:Nat)(S T:List Int)(w:World)(hs:cB (EF dr) 1 w w.heap.size A n S)(ht:cB (EF dr) 1 w w.heap.size bg n2 T)(hn:n<=140737488355328) :
  Calls prog 79 #[.slice A n c,.slice bg n2 c2] w λr J=>r=.returned (.bool (decide (S=T)))/\Below w.heap.size w J:=by
 have hl:=hs.1;have bZ:=ht.1;by_cases aH:n=n2
 case neg=>
  exact qZ
 subst aH;obtain⟨bW,Q⟩:=aI hl bZ;clear hl bZ;have aT:((n:Int) != (n:Int))=false:=by simp
 go_enter func79,ntmps79;go_wp2;go_loopw [13] (λi wr=>∃k:Nat,k<=n/\i=.int .i64 k/\(∀j,j<k->S[j]?=T[j]?)/\Below w.heap.size w wr) (λi _=>n - (intOf i).toNat)
 case atStart=>exact⟨0,J4 _,rfl,λj be=>absurd be ad,Below.refl _ _⟩
 case round=>
  obtain⟨k,aj,rfl,bK,O⟩:=hrel;have ay:=ae bK;clear bK;by_cases aq:k<n
  .obtain⟨b,o,x,rfl,H,hx,c0⟩:=(hs.eQ O O.size).int aq;obtain⟨Y,ai,e,rfl,g,d,d0⟩:=(ht.eQ O O.size).int aq;exact Fs
  .obtain rfl:k=n:=ad;exact vI
namespace BU
theorem q0(h:p:=by
 go_enter func80,ntmps80;exact qN
 ):p:=h
end BU
open BU in
theorem Ei(A bg:Kj)(n c n2 c2:Nat)(S T:List cp)(w:World)(hs:cB (EF bA) 2 w w.heap.size A n S)(ht:cB (EF bA) 2 w w.heap.size bg n2 T)(hn:n<=140737488355328) :
  Calls prog 80 #[.slice A n c,.slice bg n2 c2] w λr J=>r=.returned (.bool (decide (S=T)))/\Below w.heap.size w J:=by
 have hl:=hs.1;have bZ:=ht.1;by_cases aH:n=n2
 case neg=>
  exact qZ
 subst aH;obtain⟨bW,Q⟩:=aI hl bZ;clear hl bZ;have aT:((n:Int) != (n:Int))=false:=by simp
 go_enter func80,ntmps80;go_wp2;go_loopw [13] (λi wr=>∃k:Nat,k<=n/\i=.int .i64 k/\(∀j,j<k->S[j]?=T[j]?)/\Below w.heap.size w wr) (λi _=>n - (intOf i).toNat)
 case atStart=>exact⟨0,J4 _,rfl,λj be=>absurd be ad,Below.refl _ _⟩
 case round=>
  obtain⟨k,aj,rfl,bK,O⟩:=hrel;have ay:=ae bK;clear bK;by_cases aq:k<n
  .obtain⟨b,o,x,rfl,H,hx,c0,c1⟩:=(hs.eQ O O.size).hold aq;obtain⟨Y,ai,e,rfl,g,d,d0,d1⟩:=(ht.eQ O O.size).hold aq;have F:(0:Int)<=(k:Int):=ad;have bI:(k:Int)<(n:Int):=ad;have f:=wo x.owner x.depth e.owner e.depth;by_cases hd:x=e
   .have aJ:=ae (show S[k]?=T[k]? by rw[hx,d,hd]);have D:decide (x.owner≠e.owner\/x.depth≠e.depth)=false:=by subst hd;simp
    exact Ft
   .have a2:=ae (show decide (S=T)=false from decide_eq_false (λh=>by
     subst h;rw[hx] at d;injection d with d;exact hd d))
    have D:decide (x.owner≠e.owner\/x.depth≠e.depth)=true:=decide_eq_true (by cases x;cases e;simp at hd ⊢;omega);exact FH
  .obtain rfl:k=n:=ad;exact vI
namespace BV
theorem nR(h:p:=by
 have ab:=av ar bp bH;obtain⟨a0,al,af⟩:=bp.two;obtain⟨b0,am,aw⟩:=bH.two;clear ba ar bp bH;by_cases e1:J=x
 case neg=>
  exact xZ
 have q1:(J == x)=true:=by simpa using e1
 have r:=ae e1;clear e1;by_cases e2:p3=p4
 case neg=>
  have cM:(p3 == p4)=false:=by simpa using e2
  have bN:=ae e2;clear e2;go_wp2_with(fail);go_ret;exact⟨false,rfl,⟨λh=>(by cases h),λh=>absurd (M.1 h).2.1 bN.o⟩,ab.1⟩
 have cM:(p3 == p4)=true:=by simpa using e2
 have z:=ae e2;clear e2;go_wp2_with(fail);refine(ub IA dg i ic j dh ds m W ((bF.1.on (Fr.ext ab.1)).ints) ((bF.2.2.1.on (Fr.ext ab.1)).ints) ad).mono ?_;rintro e aL ⟨rfl,bY⟩;have ag:Ext W aL:=Fr.of bY;have H1:=ae (ab.1.trans ag);clear a0 al af b0 am aw bY;obtain⟨a0,al,af⟩:=(ab.2.1.aj ag).two;obtain⟨b0,am,aw⟩:=(ab.2.2.aj ag).two;clear ag;by_cases e3:ds=m
 case neg=>
  have c7:decide (ds=m)=false:=decide_eq_false e3;have bN:=ae e3;clear e3;go_wp2_with(fail);go_ret;exact⟨false,rfl,⟨λh=>(by cases h),λh=>absurd (M.1 h).2.2.1 bN.o⟩,H1.o⟩
 have c7:decide (ds=m)=true:=decide_eq_true e3;have u:=ae e3;clear e3;go_wp2_with(fail);refine(ub bo KA l lc k kc v y aL ((bF.2.1.on (Fr.ext H1.o)).ints) ((bF.2.2.2.on (Fr.ext H1.o)).ints) ad).mono ?_;rintro e aV ⟨rfl,bv⟩;have bO:=ae (H1.trans (Fr.of bv));clear a0 al af b0 am aw bv;go_wp2_with(fail);go_ret;refine⟨decide (v=y),rfl,⟨λh=>M.2 ⟨r.o,z.o,u.o,of_decide_eq_true h⟩,λh=>decide_eq_true (M.1 h).2.2.2⟩,bO.o⟩
 ):p:=h
end BV
open BV in
theorem uz(f g:ai)(IA bo dg KA:Kj)(i ic l lc j dh k kc:Nat)(w:World)(ac:Sl w (ao w) IA i (f.ints.map D.i))(ap:Sl w (ao w) bo l (f.aq.map D.i))(aD:Sl w (ao w) dg j (g.ints.map D.i))(bt:Sl w (ao w) KA k (g.aq.map D.i))(I:i<=100000)(hl:l<=100000) :
  Calls prog 84 #[.agg #[.int .i64 f.proc,.int .i64 f.pc,.slice IA i ic,.slice bo l lc],.agg #[.int .i64 g.proc,.int .i64 g.pc,.slice dg j dh,.slice KA k kc]] w (hy w (f=g)):=by
 have bF:=b9 ac ap aD bt;have M:Kl (f=g↔f.proc=g.proc/\f.pc=g.pc/\f.ints=g.ints/\f.aq=g.aq):=ae sk;clear ac ap aD bt;generalize Z:f.ints=ds at *;generalize b3:f.aq=v at *;generalize ah:g.ints=m at *;generalize bC:g.aq=y at *;generalize o:f.proc=J at *;generalize n:g.proc=x at *;generalize q:f.pc=p3 at *;generalize s:g.pc=p4 at *;clear Z b3 ah bC o n q s;go_enter func84,ntmps84;exact nQ
namespace BW
theorem zK(h:p:=by
 refine(uz f g IA bo dg KA x ic y lc z dh v kc Y (cF.1.on (Fr.ext bw.o)) (cF.2.1.on (Fr.ext bw.o)) (cF.2.2.1.on (Fr.ext bw.o)) (cF.2.2.2.1.on (Fr.ext bw.o)) (aC cF.2.2.2.2) (aC cF.2.2.2.2)).mono ?_;exact Fx
 ):p:=h
theorem Ac(h:p:=by
 have cF:=dT Z b3 ah bC (show x<=100000/\y<=100000 by omega);have br:=ak J L;clear T aK S Z b3 ah bC J L cy bz bJ aS bj aA;clear ar aZ;go_upto_region 6 with(fail);generalize hX:World.alloc _ _=X;have bf:=aY hX;have a6:=aF hX;have bp:=a6.lt;have aJ:=ak bf a6;replace d0:=(bf.cell u λh=>h).trans d0
 replace d1:=(bf.cell u λh=>h).trans d1
 replace d2:=(bf.cell u λh=>h).trans d2
 replace d3:=(bf.cell u λh=>h).trans d3
 exact zJ
 ):p:=h
theorem tE(h:p:=by
 go_enter func83,ntmps83;by_cases G:n=m
 case neg=>
  exact FN
 subst G;have q1:((n:Int) != (n:Int))=false:=by simp
 go_wp2_with(fail);go_loopw [17] (λcr wr=>∃i:Nat,cr=.int .i64 i/\i<=n/\Ext w wr/\∀j,j<i->l[j]?=k[j]?) (λcr _=>n - (intOf cr).toNat)
 case atStart=>exact⟨0,rfl,ad,Kf,λj be=>ad⟩
 case round=>
  obtain⟨i,rfl,I,ar,aZ⟩:=hrel;have bd:=ak ar aZ;by_cases aq:i<n
  .obtain⟨bT,cT,f,IA,x,ic,bo,y,lc,rfl,cy,J,c0,c1,c2,c3,bJ,aS,Z,b3⟩:=(bF.1.on (Fr.ext ar)).oq aq;obtain⟨a1,go,g,dg,z,dh,KA,v,kc,rfl,bz,L,d0,d1,d2,d3,bj,aA,ah,bC⟩:=(bF.2.on (Fr.ext ar)).oq aq;exact Ab
  .obtain rfl:i=n:=ad;exact FM
 ):p:=h
end BW
open BW in
theorem CT(A B:Kj)(n c m aW:Nat)(l k:List ai)(w:World)(hl:Sl w (ao w) A n (l.map dP))(aj:Sl w (ao w) B m (k.map dP))(hn:n<=1000000)(T:∀f∈l,f.ints.length<=100000/\f.aq.length<=100000) :
  Calls prog 83 #[.slice A n c,.slice B m aW,.func (.func 84) #[] #[]] w (hy w (l=k)):=by
 exact tD
namespace BX
theorem nR(h:p:=by
 have ab:=ae ar;obtain⟨a0,al,af⟩:=bp.two;obtain⟨b0,am,aw⟩:=bH.two;clear ba ar bp bH;go_wp2_with(fail);refine(CT A B n c m aW l k W (bF.1.on (Fr.ext ab.o)) (bF.2.1.on (Fr.ext ab.o)) hn bF.2.2).mono ?_;rintro e aV ⟨bb,rfl,H,aO⟩;clear a0 al af b0 am aw;go_wp2_with(fail);go_ret;exact⟨bb,rfl,H,ab.trans aO⟩
 ):p:=h
end BX
open BX in
theorem sw(A B:Kj)(n c m aW:Nat)(l k:List ai)(w:World)(hl:Sl w (ao w) A n (l.map dP))(aj:Sl w (ao w) B m (k.map dP))(hn:n<=1000000)(T:∀f∈l,f.ints.length<=100000/\f.aq.length<=100000) :
  Calls prog 82 #[.agg #[.slice A n c],.agg #[.slice B m aW]] w (hy w (l=k)):=by
 have bF:=av hl aj T;clear hl aj T;go_enter func82,ntmps82;exact nQ
namespace BY
theorem zK(h:p:=by
 refine(sw FA GA x fc z gc f g Y (cF.1.on (Fr.ext bw.o)) (cF.2.1.on (Fr.ext bw.o)) cF.2.2.1 cF.2.2.2).mono ?_;exact Fx
 ):p:=h
theorem tE(h:p:=by
 go_enter func81,ntmps81;by_cases G:n=m
 case neg=>
  exact FN
 subst G;have q1:((n:Int) != (n:Int))=false:=by simp
 go_wp2_with(fail);go_loopw [17] (λcr wr=>∃i:Nat,cr=.int .i64 i/\i<=n/\Ext w wr/\∀j,j<i->l[j]?=k[j]?) (λcr _=>n - (intOf cr).toNat)
 case atStart=>exact⟨0,rfl,ad,Kf,λj be=>ad⟩
 case round=>
  obtain⟨i,rfl,I,ar,aZ⟩:=hrel;have bd:=ak ar aZ;by_cases aq:i<n
  .obtain⟨bT,cT,f,FA,x,fc,rfl,cy,J,c0,ax,bq⟩:=(bF.1.on (Fr.ext ar)).kN aq;obtain⟨a1,go,g,GA,z,gc,rfl,bz,L,d0,an,aH⟩:=(bF.2.on (Fr.ext ar)).kN aq;have cj:bT<wr.heap.size:=cy;have u:a1<wr.heap.size:=bz;have T:=bN.2.2 f (JL J);have aK:x=f.length:=by have:=bq.1;simpa using this.symm
   have cF:=b9 bq aH (show x<=1000000 by omega) T.2;have br:=ak J L;clear T aK bq aH J L cy bz ax an;clear ar aZ;go_upto_region 6 with(fail);generalize hX:World.alloc _ _=X;have bf:=aY hX;have a6:=aF hX;have bp:=a6.lt;have aJ:=ak bf a6;replace d0:=(bf.cell u λh=>h).trans d0
   exact zJ
  .obtain rfl:i=n:=ad;exact FM
 ):p:=h
end BY
open BY in
theorem w8(A B:Kj)(n c m aW:Nat)(l k:List (List ai))(w:World)(hl:Sl w (ao w) A n (l.map jg))(aj:Sl w (ao w) B m (k.map jg))(hn:n<=1000000)(T:∀t∈l,t.length<=1000000/\∀f∈t,f.ints.length<=100000/\f.aq.length<=100000) :
  Calls prog 81 #[.slice A n c,.slice B m aW,.func (.func 82) #[] #[]] w (hy w (l=k)):=by
 exact tD
namespace BZ
theorem nR(h:p:=by
 have ab:=av ar bp bH;obtain⟨a0,al,af⟩:=bp.two;obtain⟨b0,am,aw⟩:=bH.two;clear ba ar bp bH n i;by_cases e1:J=x
 case neg=>
  exact xZ
 have q1:(J == x)=true:=by simpa using e1
 have r:=ae e1;clear e1;go_wp2_with(fail);refine(ub GA b7 gn gc l k s.globals aB.globals W ((bF.1.on ab.1).at_.g.ints) ((bF.2.1.on ab.1).at_.g.ints) ad).mono ?_;rintro e aL ⟨rfl,bY⟩;have ag:Ext W aL:=Fr.of bY;have H1:=ae (ab.1.trans ag);clear a0 al af b0 am aw bY;obtain⟨a0,al,af⟩:=(ab.2.1.aj ag).two;obtain⟨b0,am,aw⟩:=(ab.2.2.aj ag).two;have g:=ae ag;clear ag;by_cases e3:s.globals=aB.globals
 case neg=>
  have c7:decide (s.globals=aB.globals)=false:=decide_eq_false e3;have bN:=ae e3;clear e3;go_wp2_with(fail);go_ret;exact⟨false,rfl,⟨λh=>(by cases h),λh=>absurd (M.1 h).2.1 bN.o⟩,H1.o⟩
 have c7:decide (s.globals=aB.globals)=true:=decide_eq_true e3;have u:=ae e3;clear e3;go_wp2_with(fail);refine(Ei TA bW tn tc bc a8 s.table aB.table aL ((bF.1.on H1.o).at_.t.holds) ((bF.2.1.on H1.o).at_.t.holds) ad).mono ?_;rintro e aV ⟨rfl,bv⟩;have aO:Ext aL aV:=Fr.of bv;have bO:=ae (H1.trans aO);clear a0 al af b0 am aw bv;obtain⟨a0,al,af⟩:=(ab.2.1.aj (g.trans aO)).two;obtain⟨b0,am,aw⟩:=(ab.2.2.aj (g.trans aO)).two;clear aO;by_cases cn:s.table=aB.table
 case neg=>
  have c8:decide (s.table=aB.table)=false:=decide_eq_false cn;have bN:=ae cn;clear cn;go_wp2_with(fail);go_ret;exact⟨false,rfl,⟨λh=>(by cases h),λh=>absurd (M.1 h).2.2.1 bN.o⟩,bO.o⟩
 have c8:decide (s.table=aB.table)=true:=decide_eq_true cn;have j:=ae cn;clear cn;go_wp2_with(fail);refine(w8 HA bL hn hc hm hd s.threads aB.threads aV ((bF.1.on bO.o).at_.h) ((bF.2.1.on bO.o).at_.h) ad bF.2.2).mono ?_;rintro e bV ⟨bb,rfl,H,a7⟩;have cb:=ak H (bO.trans a7);clear a0 al af b0 am aw H a7;go_wp2_with(fail);go_ret;exact⟨bb,rfl,⟨λh=>M.2 ⟨r.o,u.o,j.o,cb.1.1 h⟩,λh=>cb.1.2 (M.1 h).2.2.2⟩,cb.2⟩
 ):p:=h
end BZ
open BZ in
theorem HD(s aB:ah)(q ao:SV)(w:World)(h:q.Ok w s)(F:ao.Ok w aB)(T:Small s) :
  Calls prog 33 #[.agg (q.val s),.agg (ao.val aB)] w (hy w (s=aB)):=by
 obtain⟨GA,gn,gc,TA,tn,tc,HA,hn,hc⟩:=q;obtain⟨b7,l,k,bW,bc,a8,bL,hm,hd⟩:=ao;have rU:gn<=100000:=by have ac:=h.at_.g.1;have ap:=T.g;rw[JM] at ac;have aD:s.globals.length=gn:=ac;omega
 have rV:tn<=100000:=by have ac:=h.at_.t.1;have ap:=T.t;rw[JM] at ac;have aD:s.table.length=tn:=ac;omega
 have pJ:hn<=100000:=by have ac:=h.at_.h.1;have ap:=T.h;rw[JM] at ac;have aD:s.threads.length=hn:=ac;omega
 have az:∀t∈s.threads,t.length<=1000000/\∀f∈t,f.ints.length<=100000/\f.aq.length<=100000:=λt ht=>⟨by have:=(T.f t ht).1;omega,λf aA=>by have:=(T.f t ht).2 f aA;omega⟩
 have bF:=av h F az;have M:Kl (s=aB↔s.fault=aB.fault/\s.globals=aB.globals/\s.table=aB.table/\s.threads=aB.threads):=ae (by cases s;cases aB;simp;exact⟨λ⟨a,b,c,d⟩=>⟨d,a,b,c⟩,λ⟨d,a,b,c⟩=>⟨a,b,c,d⟩⟩);clear h F T az;dsimp only[SV.val];generalize n:s.fault=J at *;generalize i:aB.fault=x at *;go_enter func33,ntmps33;exact nQ
end Go.Proofs.YtnigabjngpnbiaaGreat
