/- Part 35 of the proof. No condition of its own. -/
import Derived.Test.YtnigabjngpnbiabGreatF33
import Derived.Test.YtnigabjngpnbiabGreatF34
namespace Go.Proofs.YtnigabjngpnbiabGreat
open Go.RowKit Go.Proofs.Tryz
set_option maxRecDepth 1000000
set_option maxHeartbeats 25600000
set_option linter.unusedVariables false
variable{bv:Int}{ps:List (ByteArray×Bool)}{i:Nat}{P:Nat->Prop}{p:Prop}
def cb(s:List UInt8)(T:List Tok)(k:Nat):Bool:=match T[k]? with
 | some t=>(t.kind == 4 || t.kind == 3) && decide (strOf t.text=strOf s)
 | none=>false
def ui(q:Int)(T:List Tok)(k:Nat):Bool:=match T[k]? with
 | some t=>t.kind == q
 | none=>false
structure bI(w:World)(g:Nat)(A:NH)(n c:Nat)(T:List Tok)(k deep:Nat):Prop where
 blk:an w g 104 #[.slice A n c,.int .i64 k,.int .i64 0,.int .i64 0,.int .i64 0,.int .i64 deep]
 uj:cp (EF rN) 4 w g A n T
 lt:k<n
 jo:n<=4001
section
variable {w ab:World} {g:Nat} {A:NH} {n c:Nat} {T:List Tok} {k deep:Nat}
theorem bI.on{M:Nat->Prop}(h:bI w g A n c T k deep)(O:Fr M w ab)(hM:∀b,M b->g<b):bI ab g A n c T k deep:=
 ⟨h.blk.on O λhm=>by have:=hM g hm;omega,h.uj.fA (O.below (ax h.blk.lt) λb O hm=>by have:=hM b hm;omega),h.lt,h.jo⟩
theorem bI.aj(h:bI w g A n c T k deep)(O:Ext w ab):bI ab g A n c T k deep:=h.on O λ_ h=>h.elim
theorem bI.tok(h:bI w g A n c T k deep):∃(b o:Nat) (t:Tok),A=some ⟨b,o,none⟩/\b<g/\T[k]?=some t/\w.cell? ⟨b,o+k*4,none⟩=some (.int .i64 t.kind)/\w.cell? ⟨b,o+k*4+1,none⟩=some (.string (strOf t.text))/\w.cell? ⟨b,o+k*4+2,none⟩=some (.int .i64 t.num)/\w.cell? ⟨b,o+k*4+3,none⟩=some (.int .i64 t.pos):=by
 have hl:=h.uj.1;obtain⟨b,o,bF,O,hc⟩:=h.uj.2 (ax h.lt);have aj:k<T.length:=by have:=h.lt;omega
 have ht:T[k]?=some T[k]:=List.getElem?_eq_getElem aj;obtain⟨cs,rfl,_,bi⟩:=hc k _ ht;have c0:=bi 0 _ rfl;simp only[Nd] at c0;exact⟨b,o,_,bF,O,ht,c0,bi 1 _ rfl,bi 2 _ rfl,bi 3 _ rfl⟩
end
theorem HI(a b:List UInt8):((strOf a).toList == (strOf b).toList)=decide (strOf a=strOf b):=by
 by_cases h:strOf a=strOf b
 .rw[h];simp
 .rw[uh h];simp[h]
namespace CO
theorem c4(h:p:=by
 generalize hX:World.drew _=X;have aF:=hy hX;have aT:=lW hX;have bk:=ae aF;have bn:=(aT.aj NC)
 obtain⟨d0,aQ,aS⟩:=aT.two;obtain⟨a0,ak,af⟩:=(show an X g 104 _ from ck.aj aF).two;clear hX aF aT bn;have iq:(t.kind == 4 || t.kind == 3)=true->cb s T k=((strOf t.text).toList == (strOf s).toList):=λh=>by rw[bH.o,h,HI,Bool.true_and]
 have d:(t.kind == 4 || t.kind == 3)=false->cb s T k=false:=λh=>by rw[bH.o,h,Bool.false_and]
 have bZ:=ah iq d;clear iq d;by_cases aU:t.kind=4
 .have dc:(t.kind == 4)=true:=by simpa using aU
  clear aU;go_wp2_with(fail);go_ret;exact⟨ret_bool (bZ.1 (by simp[dc])).symm,bk.o⟩
 .have dc:(t.kind == 4)=false:=by simpa using aU
  clear aU;by_cases aV:t.kind=3
  .have de:(t.kind == 3)=true:=by simpa using aV
   clear aV;go_wp2_with(fail);go_ret;exact⟨ret_bool (bZ.1 (by simp[de])).symm,bk.o⟩
  .have de:(t.kind == 3)=false:=by simpa using aV
   clear aV;go_wp2_with(fail);go_ret;exact⟨ret_bool (bZ.2 (by simp[de,dc])).symm,bk.o⟩
 ):p:=h
end CO
open CO in
theorem l2(s:List UInt8)(g:Nat)(A:NH)(n c:Nat)(T:List Tok)(k deep:Nat)(w:World)(h:bI w g A n c T k deep) :
  Calls prog 38 #[.pointer (some ⟨g,0,none⟩),.string (strOf s)] w λe ab=>e=.returned (.bool (cb s T k))/\Ext w ab:=by
 obtain⟨b,o,t,rfl,O,ht,c0,c1,c2,c3⟩:=h.tok;have ap:=h.lt;have L:=h.jo;have cv:=h.blk.lt;have bE:(0:Int)<=(k:Int):=ad;have ce:(k:Int)<(n:Int):=ad;have fk:b<w:=ad;have f:cb s T k=((t.kind == 4 || t.kind == 3) && decide (strOf t.text=strOf s)):=by unfold cb;rw[ht]
 have bH:=ae f;obtain⟨a0,ak,af⟩:=h.blk.two;have ck:=ae h.blk;clear h f ht;go_enter func38,ntmps38;go_upto_region 1 with(fail);refine eJ (λ_=>False) [(0,3),(1,3),(2,3),(3,0),(4,3),(5,3),(6,3),(7,0),(8,3),(9,0),(10,1),(11,2)] ?_
 iterate 3 refine pf ?_
 refine ph ?_
 iterate 3 refine pf ?_
 refine ph ?_;refine pf ?_;refine ph ?_;refine rS ?_;exact ew
theorem cL(s:List UInt8)(g:Nat)(A:NH)(n c:Nat)(T:List Tok)(k deep:Nat)(w:World)(h:bI w g A n c T k deep)(q:Bool)(bv:cb s T k=q)(aj:q=true->k+1<n) :
  Calls prog 40 #[.pointer (some ⟨g,0,none⟩),.string (strOf s)] w λe ab=>e=.returned q/\bI ab g A n c T (if q=true then k+1 else k) deep/\Fr (λb=>b=g) w ab:=by
 obtain⟨H,bW⟩:=aJ h bv;have ap:=h.lt;have L:=h.jo;clear h bv
 cases q with
 | false=>
  go_enter func40,ntmps40;go_wp2_with(fail);refine(l2 s g A n c T k deep w H.o).mono ?_;rintro e aO ⟨rfl,aF⟩;rw[bW.o];have H1:=ah (H.aj aF) aF;clear aF aj;go_wp2_with(fail);go_ret
  exact⟨rfl,by simpa using H1.1,H1.2.mono λ_ h=>h.elim⟩
 | true=>
  have cK:=aj rfl;clear aj;go_enter func40,ntmps40;go_wp2_with(fail);refine(l2 s g A n c T k deep w H.o).mono ?_;rintro e aO ⟨rfl,aF⟩;rw[bW.o];have H1:=ah (H.aj aF) aF;obtain⟨a0,ak,af⟩:=H1.1.blk.two;clear aF;go_wp2_with(fail);go_ret;have J:Fr (λb=>b=g) aO (aO.setCell ⟨g,1,none⟩ (.int .i64 ((k:Int)+1))):=(Fr.refl (λb=>b=g) aO).setCell (.inl rfl) _;refine⟨rfl,⟨?_,H1.1.uj.fA (J.below (ax H1.1.blk.lt) λb O hm=>ad),by simpa using cK,L⟩,(H1.2.mono λ_ h=>h.elim).trans J⟩;exact H1.1.blk.aK 1 (.int .i64 ((k:Int)+1))
theorem ko(s:List UInt8)(g:Nat)(A:NH)(n c:Nat)(T:List Tok)(k deep:Nat)(w:World)(h:bI w g A n c T k deep)(bv:cb s T k=true)(aj:k+1<n) :
  Calls prog 78 #[.pointer (some ⟨g,0,none⟩),.string (strOf s)] w λe ab=>e=.returned (.tuple #[])/\bI ab g A n c T (k+1) deep/\Fr (λb=>b=g) w ab:=by
 obtain⟨H,bW⟩:=aJ h bv;clear h bv;go_enter func78,ntmps78;go_wp2_with(fail);refine(cL s g A n c T k deep w H.o true bW.o (λ_=>aj)).mono ?_;rintro e aO ⟨rfl,bh,hF⟩;have H1:=ah bh hF;clear bh hF;go_wp2_with(fail);refine bodyPost_end (v:=.tuple #[]) (by simp[results,Tryz.results78,go_sem]) rfl ?_;exact⟨rfl,by simpa using H1.1,H1.2⟩
theorem pI(q:Int)(g:Nat)(A:NH)(n c:Nat)(T:List Tok)(k deep:Nat)(w:World)(h:bI w g A n c T k deep) :
  Calls prog 37 #[.pointer (some ⟨g,0,none⟩),q] w λe ab=>e=.returned (.bool (ui q T k))/\Ext w ab:=by
 obtain⟨b,o,t,rfl,O,ht,c0,c1,c2,c3⟩:=h.tok;have ap:=h.lt;have L:=h.jo;have cv:=h.blk.lt;have bE:(0:Int)<=(k:Int):=ad;have ce:(k:Int)<(n:Int):=ad;have fk:b<w:=ad;have f:ui q T k=(t.kind == q):=by unfold ui;rw[ht]
 have bH:=ae f;obtain⟨a0,ak,af⟩:=h.blk.two;clear h f ht;go_enter func37,ntmps37;go_upto_region 1 with(fail);refine eJ (λ_=>False) [(0,3),(1,3),(2,3),(3,0),(4,3),(5,3),(6,3),(7,3),(8,3),(9,0),(10,3),(11,3),(12,3),(13,0),(14,3),(15,3),(16,0),(17,3),(18,3),(19,3),(20,3)] ?_
 iterate 3 refine pf ?_
 refine ph ?_
 iterate 5 refine pf ?_
 refine ph ?_
 iterate 3 refine pf ?_
 refine ph ?_
 iterate 2 refine pf ?_
 refine ph ?_
 iterate 4 refine pf ?_
 refine aG ?_;go_wp2_with(fail);go_ret;exact⟨ret_bool bH.symm,NC.drew⟩
theorem nc(g:Nat)(A:NH)(n c:Nat)(T:List Tok)(k deep:Nat)(w:World)(t:Tok)(h:bI w g A n c T k deep)(ht:T[k]?=some t)(bv:t.kind=1)(aj:k+1<n) :
  Calls prog 43 #[.pointer (some ⟨g,0,none⟩)] w λe ab=>e=.returned (.string (strOf t.text))/\bI ab g A n c T (k+1) deep/\Fr (λb=>b=g) w ab:=by
 have H:=ae h;have d:ui 1 T k=true:=by unfold ui;rw[ht];simp[bv]
 obtain⟨bW,Q⟩:=aJ d ht;have L:=h.jo;clear h d bv ht;go_enter func43,ntmps43;go_wp2_with(fail);refine(pI 1 g A n c T k deep w H.o).mono ?_;rintro e aO ⟨rfl,aF⟩;rw[bW.o];have H1:=ah (H.aj aF) aF;obtain⟨a0,ak,af⟩:=H1.1.blk.two;clear aF;go_upto_region 5 with(fail);generalize hX:World.setCell _ _ _=X;have J:=cP hX;have bh:bI X g A n c T (k+1) deep:=by
  rw[<-hX];have J:Fr (λb=>b=g) aO (aO.setCell ⟨g,1,none⟩ (.int .i64 ((k:Int)+1))):=(Fr.refl (λb=>b=g) aO).setCell (.inl rfl) _;exact⟨H1.1.blk.aK 1 (.int .i64 ((k:Int)+1)),H1.1.uj.fA (J.below (ax H1.1.blk.lt) λb O hm=>ad),aj,L⟩
 have aP:=ah bh ((H1.2.mono λ_ h=>h.elim).trans J);obtain⟨b,o,m,rfl,O,i,c0,c1,c2,c3⟩:=H1.1.tok;have G:m=t:=by
  have:=Q.o;rw[i] at this;injection this
 subst G;have cv:=bh.blk.lt;have fk:b<X:=ad;have em:¬b=g:=ad;have c1:X.cell? ⟨b,o+k*4+1,none⟩=some (.string (strOf m.text)):=(J.cell (ax H1.1.blk.lt) em).trans c1;clear a0 ak af c0 c2 c3 hX J;obtain⟨a0,ak,af⟩:=bh.blk.two;have bE:(0:Int)<=(k:Int):=ad;have ce:(k:Int)<(n:Int):=ad;have f:(k:Int)<=4001:=ad;clear bh i;refine eJ (λ_=>False) [(0,3),(1,3),(2,3),(3,0),(4,3),(5,3),(6,3),(7,0),(8,3),(9,3),(10,3),(11,0),(12,3)] ?_
 iterate 3 refine pf ?_
 refine ph ?_
 iterate 3 refine pf ?_
 refine ph ?_;refine pf ?_;rw[show IntKind.i64.wrap ((k:Nat):Int)=(k:Int) from IntWalk.i64_in _ ad]
 iterate 2 refine pf ?_
 refine ph ?_;refine pf ?_;refine aG ?_;go_wp2_with(fail);go_ret;exact⟨rfl,aP.1.aj NC.drew,aP.2.drew⟩
namespace C3
theorem pY(h:p:=by
 exact ho.simple (st:=.lock bb r) ⟨s,wb,sA,bU,bx,sl,GA,gn,gc,MA,mn,mc,FA,fn,fc,M,F,ar⟩ ck B eE bi d ps V T ls N L av a9 QA cq qc bQ aR.1 fk bn aR.2.2.2.1 cc.1 cd c2 aT (bt.fresh aR.1 J λb O=>ad) aU
  (eI mF (jR.2 ⟨IA,i,ic,rfl,aM,(au.ak λb O=>J.block b O.2 (ax O.1)).mono λb O=>⟨by have:=O.1;omega,by have:=O.2;omega⟩⟩) (Sl.bY _) (MU _) (Sl.bY _) (MU _) (Sl.bY _) (MU _)) (la cc.1 (aN _)) (λn hn=>by simp[aB.all] at hn) (by simp only[aB.num];omega) (MU _) bg.2.2 aR.2.1
 ):p:=h
theorem mb(h:p:=by
 first
  | have cj:decide (k<4)=true:=by simpa using aj.2
  | have cj:decide (k<4)=false:=by simpa using aj.2.1
    have cB:decide (k<7)=true:=by simpa using aj.2.2
 have aA:=ae aj.1;clear aj;go_wp2_with(fail);refine(rD ⟨s,wb,sA,bU,bx,sl,GA,gn,gc,MA,mn,mc,FA,fn,fc,M,F,ar⟩ L a1 be bp bC a9 ps QA cq qc bQ wr (bY.1.wr aR.1) ((Sl.cD aR.2.2.2.2.1 bY.1.fr).mono λb O=>⟨O.1,λh=>O.2 (.inl h)⟩) ad ((Sl.cD aR.2.2.1 bY.1.fr).mono λb O=>⟨O.1,λh=>O.2 (.inl h)⟩) bv).mono ?_;rintro e aW ⟨r,IA,i,ic,rfl,aN,aM,au,aw,ai⟩;simp only at aN aw ai;have ag:=bY.2.2.on ai ad;have a3:=dH (bY.1.next bl aw ai) ag aN aM au ai.size;clear a0 ak af bs am aK d0 aQ aS aN aM au aw ai;obtain⟨d0,aQ,aS⟩:=ag.two;clear ag;go_wp2_with(fail);generalize hX:World.setCell _ _ _=X;have J:Fr (λb=>b=S.heap.size) aW X:=by rw[<-hX];first|exact((Fr.refl (λb=>b=S.heap.size) aW).setCell (.inl rfl) _).setCell (.inl rfl) _|exact(((Fr.refl (λb=>b=S.heap.size) aW).setCell (.inl rfl) _).setCell (.inl rfl) _).setCell (.inl rfl) _
 have aU:an X S 175 #[.int .i64 (if bb then 6 else 5),NF,(0:Int),(0:Int),NF,(),.string r.name,.slice IA i ic,(),(),()]:=by rw[<-hX,aA.o];first|exact(a3.2.1.aK 6 _).aK 7 _|exact((a3.2.1.aK 0 _).aK 6 _).aK 7 _
 clear hX d0 aQ aS;obtain⟨bt,_,aN,aM,au,bO⟩:=a3.o;have cl:=J.size;have bf:=bY.2.2.lt;exact pX
 ):p:=h
end C3
open C3 in
theorem Ga(bb:Bool)(k:Int)(d bp:Nat)(h:(bb=false/\k<4)\/bb=true/\¬k<4/\k<7):SK k d bp:=by
 rcases h with aj|aj
 all_goals
  exact ma
namespace C8
theorem pY(h:p:=by
 exact ho.simple (st:=.ite x (.eV R) .nil) ⟨s,wb,sA,bU,bx,sl,GA,gn,gc,MA,mn,mc,FA,fn,fc,M,F,ar⟩ ck B eE bi d ps V T ls N L av a9 QA cq qc bQ aR.1 fk bn aR.2.2.2.1 cc.1 cd c2 aT bN.1 aU (eI (aY.2 ⟨cW,bh,cY,rfl,a3.2.2.2.1,bN.2.2.2.1⟩) k5 (Sl.bY _) (MU _) bN.2.2.2.2 bH.2.2.2.1 (Sl.bY _) (MU _)) ⟨i,j.1,dR cc.1 2 x a3.2.2.1,(dn _ i i a1 _ _ _ cc.1 (λ_ _ h=>h) (MU _) bH.2.2.1.wf),lQ⟩ (λn hn=>by simp only[aB.all,al.all,Nt] at hn;obtain⟨k,ac,az,aV⟩:=bH.2.2.1.all n hn;exact⟨k,ac,ad,aV⟩) (by simp only[aB.num,al.num];omega) dm bg.2.2 aR.2.1
 ):p:=h
theorem Bi(h:p:=by
 obtain⟨a0,ak,af⟩:=aP.1.blk.two;go_wp2_with(fail);refine(aZ X s sA bU bx sl 2 aP.1.src ad ad).mono ?_;rintro e b6 ⟨cw,rfl,a7,b2,h,he⟩;have ai:=he.fr;have dF:s<X:=aP.1.src.lt;have aC:=aP.1.next bl h ai;have b0:=aP.2.1.on ai ad;have bN:=cQ aC b0 (aP.2.2.1.on ai Z) (aP.2.2.2.1.E7 ai λb O=>ad) (aP.2.2.2.2.E7 ai λb O=>ad);have bt:S<b6.heap.size:=b0.lt;have aD:=ah ai.size (λb (ac:b<X.heap.size) (az:¬b=s)=>ai.block b ac az);clear a0 ak af h he ai aC a7 b2 b0;have ay:=bH.2.2.1.num;by_cases aj:cw=1
 case neg=>
  have q:(cw == 1)=false:=by simpa using aj
  clear aj;go_wp2_with(fail);have aU:=bN.2.1;exact pX
 case pos=>
  have q:(cw == 1)=true:=by simpa using aj
  clear aj;obtain⟨bs,am,aK⟩:=bN.2.2.1.two;go_wp2_with(fail)
  first
   | rw[j.2,show IntKind.i64.wrap ((i:Nat):Int)=((i:Nat):Int) from IntWalk.i64_in _ ad]
   | rw[j.2]
  refine(cc.2.2 ba ad i 3 a1 (T++decls ls) be bp bC a9 ps QA cq qc bQ b6 ad ad (bN.1.wr aR.1) (Sl.cD aR.2.2.2.2.1 bN.1.fr) ad (λk aj=>cc.2.1 k ad) (Sl.cD aR.2.2.1 bN.1.fr) bv).mono ?_;rintro e cO ⟨u,a6,aH,bb,bm,rfl,bV,b8,bO,P,aq⟩;have I:¬(S.heap.size=s\/S.heap.size=wb):=ad;have W:=bN.2.1.on aq I;have cN:a6<=ba:=bV.le;have bW:=dH (bN.1.JA P aq) W bV b8 bO aq;clear bV b8 bO P aq bs am aK;obtain⟨d0,aQ,aS⟩:=W.two;clear W;go_wp2_with(fail);generalize co:World.setCell _ _ _=Y;have J:=cP co;have aU:an Y S 175 #[(7:Int),NF,.int .i64 x.a5,.int .i64 x.numOf,.string x.bw,.slice cW bh cY,NF,(),(),.slice t ab bR,.slice aH bb bm]:=co▸bW.2.1.aK 10 _;clear co d0 aQ aS;have z:=bW.2.2.2.2.2;have bd:=bW.2.2.1.num;have bB:∀b,S.heap.size<=b->¬(b=s\/b=wb):=λb O h=>ad;have a8:Sl X (λb=>S.heap.size<b/\b<X.heap.size) cW bh (x.args.map bo):=aA.1;have aX:Sl X (λb=>S.heap.size<b/\b<X.heap.size) t ab (dc (.eV R)):=aA.2;have cK:∀b,S.heap.size<b->b<X.heap.size->Y.heap[b]?=X.heap[b]?:=λb ac az=>(J.block b (nI aD.1 z.size) ad).trans ((z.block b (ax aD.1) (bB b ad)).trans (aD.2 b az ad));have cM:X<=Y.heap.size:=by have:=aD.1;have:=z.size;have:=J.size;omega
  have bk:Sl Y (fresh S Y) cW bh (x.args.map bo):=(a8.ak λb O=>cK b O.1 O.2).mono λb O=>⟨by have:=O.1;omega,by have:=O.2;omega⟩
  have bj:Sl Y (fresh S Y) t ab (dc (.eV R)):=(aX.ak λb O=>cK b O.1 O.2).mono λb O=>⟨by have:=O.1;omega,by have:=O.2;omega⟩
  have aN:Sl Y (fresh S Y) aH bb (dc (.eV u)):=by
   rw[mV];exact(bW.2.2.2.2.1.ak λb O=>J.block b O.2 (ax O.1)).mono λb O=>⟨by have:=O.1;omega,by have:=O.2;have:=J.size;omega⟩
  try refine hN _ _ ?_
  unfold l8;refine⟨be,bp,bC,bL,on,bF,?_⟩
  iterate 240 apply Exists.intro
  refine⟨?_,rfl⟩;exact ho.simple (st:=.ite x (.eV R) (.eV u)) ⟨s,wb,sA,bU,bx,sl,GA,gn,gc,MA,mn,mc,FA,fn,fc,M,F,ar⟩ ck B eE bi d ps V T ls N L av a9 QA cq qc bQ aR.1 fk bn aR.2.2.2.1 cc.1 cd c2 aT (bW.1.fresh aR.1 J λb O=>ad) aU (eI (aY.2 ⟨cW,bh,cY,rfl,a3.2.2.2.1,bk⟩) k5 (Sl.bY _) (MU _) bj bH.2.2.2.1 aN bW.2.2.2.1) ⟨i,j.1,dR cc.1 2 x a3.2.2.1,(dn _ i i a1 _ _ _ cc.1 (λ_ _ h=>h) (MU _) bH.2.2.1.wf),(dn _ i i a1 _ _ _ cc.1 (λ_ _ h=>h) (MU _) bW.2.2.1.wf)⟩ (λn hn=>by simp only[aB.all] at hn;exact(Nc.1 hn).elim (λhn=>by obtain⟨k,ac,az,aV⟩:=bH.2.2.1.all n hn;exact⟨k,ad,ad,aV⟩) (λhn=>by obtain⟨k,ac,az,aV⟩:=bW.2.2.1.all n hn;exact⟨k,ac,ad,aV⟩)) (by simp only[aB.num];omega) ad bg.2.2 aR.2.1
 ):p:=h
theorem Be(h:p:=by
 have bE:an X S 175 #[(7:Int),NF,.int .i64 x.a5,.int .i64 x.numOf,.string x.bw,.slice cW bh cY,NF,(),(),.slice t ab bR,()]:=hX▸(((((bH.2.1.aK 0 _).aK 2 _).aK 3 _).aK 4 _).aK 5 _).aK 9 _;exact Bh
 ):p:=h
theorem Cl(h:p:=by
 go_upto_region 30 with(fail);exact CE
 ):p:=h
theorem mb(h:p:=by
 exact Ck
 ):p:=h
end C8
open C8 in
theorem KZ(d bp:Nat)(bI:0<d):SK 11 d bp:=by
 exact ma
theorem KY(cw:Int)(bE:0<=cw)(au:cw<14)(d bp:Nat):SK cw d bp:=by
 by_cases aU:cw<4
 .exact Ga false cw d bp (.inl ⟨rfl,aU⟩)
 by_cases C:cw<7
 .exact Ga true cw d bp (.inr ⟨rfl,aU,C⟩)
 have aj:cw=7\/cw=8\/cw=9\/cw=10\/cw=11\/cw=12\/cw=13:=ad;rcases aj with rfl|rfl|rfl|rfl|rfl|rfl|rfl
 .exact JN d bp
 .by_cases bK:0<bp
  .exact JM d bp ad
  .exact ze 8 d bp ad
 .exact F8 false 9 d bp (by simp)
 .exact F8 true 10 d bp (by simp)
 .by_cases hd:0<d
  .exact KZ d bp ad
  .exact ze 11 d bp ad
 .by_cases hd:0<d
  .exact K0 d bp ad
  .exact ze 12 d bp ad
 .exact ze 13 d bp ad
def K9(p:kL)(ck B:Nat)(eE bi:Value)(d:Nat)(ps:List (ByteArray×Bool))(V T:NI)(av:World)(aJ:Nat)(a9:ByteArray)(QA:NH)(cq qc:Nat)(bQ:Value)(be:NH)(bp bC:Nat)(bL:NH)(on bF:Nat)(N:Int)(w:World):Prop:=∃(a1:NI) (ls:List aB) (L:Nat),
 N<=7/\pk p av w L/\an w ck 118 #[.string a9,.slice QA cq qc,bQ]/\lS B 9 1 175 11 w be bp bC (a1.map D.s) bL on bF (ls.map bk)/\Made (p.env ps) d V T aJ L ls/\a1 ⊆ V++decls ls/\a1.length+L<=60
def rK(p:kL)(ck B:Nat)(eE bi:Value)(d:Nat)(ps:List (ByteArray×Bool))(V T:NI)(av:World)(aJ:Nat)(a9:ByteArray)(QA:NH)(cq qc:Nat)(bQ:Value)(a:Act)(w:World):Prop:=∃(be:NH) (bp bC:Nat) (bL:NH) (on bF:Nat) (N:Int) (gL o u8 gO eY aQ u16 bx bI eZ e3 e4 e5 e6 e7 e8 e9 fa fb fd fe ff u32 fh fi fj fl fm fo fp fr fs ft fu fv fw fx fy fz fA fB fD fE fF fG fH fI fJ fK fL fM fN fO fP u64 fR fS fT fU fV fW fX fY fZ f3 f4 f5 f6 f7 f8 f9 ga gb gd ge gf gg gh gi gj gk gl gm go gp gq gr gs gt gu H I am aK aM aS aX aY a4 bb bs bt bD bE bT bU b1 b9 ca cb ce cf cg ch cn cp ct cx cy cz cE cF cI cJ cK cM cN cR cS cT cV cW cX cY cZ c5 c6 c7 c8 c9 da db dc dd de df dg dh di dj dk dl dm dn dp dq dr ds dt du dv dw dx dy dA dC dD dE dF dG dH dI dJ dK dL dM dN dO dQ dR dT dU dV dW dZ d0 d1 d2 d3 d4 d5 d6 d7 d8 d9 ea eb ec ed ee ef eh ei ej ek el em en eo eq er es et eu ev ex ey ez eA eB eC eD eF eG eH eI eK eL eM eN eO eP eQ eR eS eT eU eV eW bY aR:Value),K9 p ck B eE bi d ps V T av aJ a9 QA cq qc bQ be bp bC bL on bF N w/\a=⟨#[.pointer (some ⟨p.wb,0,none⟩),eE,.slice be bp bC,.int .i64 (d:Int),bi,gL,.pointer (some ⟨ck,0,none⟩),o,u8,gO,eY,.slice bL on bF,.int .i64 N,bY,aR,aQ,u16,bx,bI,eZ,e3,e4,e5,e6,e7,e8,e9,fa,fb,fd,fe,ff,u32,fh,fi,fj,fl,fm,fo,fp,fr,fs,ft,fu,fv,fw,fx,fy,fz,fA,fB,fD,fE,fF,fG,fH,fI,fJ,fK,fL,fM,fN,fO,fP,u64,fR,fS,fT,fU,fV,fW,fX,fY,fZ,f3,f4,f5,f6,f7,f8,f9,ga,gb,gd,ge,gf,gg,gh,gi,gj,gk,gl,gm,go,gp,gq,gr,gs,gt,gu,H,I,am,aK,aM,aS,aX,aY,a4,bb,bs,bt,bD,bE,bT,bU,b1,b9,ca,cb,ce,cf,cg,ch,cn,cp,ct,cx,cy,cz,cE,cF,cI,cJ,cK,cM,cN,cR,cS,cT,cV,cW,cX,cY,cZ,c5,c6,c7,c8,c9,da,db,dc,dd,de,df,dg,dh,di,dj,dk,dl,dm,dn,dp,dq,dr,ds,dt,du,dv,dw,dx,dy,dA,dC,dD,dE,dF,dG,dH,dI,dJ,dK,dL,dM,dN,dO,dQ,dR,dT,dU,dV,dW,dZ,d0,d1,d2,d3,d4,d5,d6,d7,d8,d9,ea,eb,ec,ed,ee,ef,eh,ei,ej,ek,el,em,en,eo,eq,er,es,et,eu,ev,ex,ey,ez,eA,eB,eC,eD,eF,eG,eH,eI,eK,eL,eM,eN,eO,eP,eQ,eR,eS,eT,eU,eV,eW],[]⟩
def GG(a:Act)(_:World):Nat:=(intOf (a.tmps.getD 12 undef)).toNat
theorem HL(p:kL)(ck B:Nat)(eE bi:Value)(d:Nat)(ps:List (ByteArray×Bool))(V T:NI)(av:World)(aJ:Nat)(a9:ByteArray)(QA:NH)(cq qc:Nat)(bQ:Value)(i:gN av p aJ)(k:Sl av (off p.MW av) QA cq (ps.map cC))(bq:av.heap.size<=ck)(bn:ck<B)(bG:B<=ck+1)(bv:cq<=2)(bc:d<=2)(Z:mM T aJ)(u:∀Y,Y<aJ->JZ p Y)(dz:Exit->Act->World->Prop)(hQ0:∀c a d v w,dz (.panic c) (a.put d v) w->dz (.panic c) a w)(x:∀r j,rK p ck B eE bi d ps V T av aJ a9 QA cq qc bQ r j->dz (.exit 0) r j)
  (a:Act) (wr:World) (hI:rK p ck B eE bi d ps V T av aJ a9 QA cq qc bQ a wr):Code.wp prog x8 (Exit.then (λr j=>rK p ck B eE bi d ps V T av aJ a9 QA cq qc bQ r j/\GG r j<GG a wr) dz) a wr:=by
 obtain⟨s,wb,sA,bU,bx,sl,GA,gn,gc,MA,mn,mc,FA,fn,fc,M,F,ar⟩:=p;unfold rK at hI;obtain⟨be,bp,bC,bL,on,bF,N,hI⟩:=hI
 iterate 241 obtain⟨_,hI⟩:=hI
 obtain⟨hI,rfl⟩:=hI;have aR:=ae hI;obtain⟨a1,ls,L,a4,hC,ax,hG,hM,hV,cd⟩:=hI;have bl:=i.ne;have bX:=i.src.lt;have cD:=i.blk.lt;simp only at bl bX cD;obtain⟨a0,ak,af⟩:=hC.blk.two;have b4:a1.length=bp:=by have:=hG.one.len;simpa using this
 have ai:ls.length=on:=by have:=hG.two.len;simpa using this
 have a2:=hC.le;have aE:=hM.le;have aI:=i.k0;have aP:on<=48:=by
  have ac:=hM.num;have az:=vh ls;have aV:=i.k0;omega
 have al:=cQ hC ax hG hM hV;have bg:=br i k Z u;clear hC ax hG hM hV i k Z u;by_cases hf:0<N
 case neg=>
  have q:decide (N > 0)=false:=by simp;omega
  exact AI
 by_cases aY:0<L
 case neg=>
  have q:decide (N > 0)=true:=by simpa using hf
  obtain rfl:L=0:=ad;exact AI
 obtain⟨Y,rfl⟩:∃Y,L=Y+1:=⟨L - 1,ad⟩
 have dm:(0:Int)<((Y+1:Nat):Int):=ad;clear aR;conv=>arg 2;whnf
 go_upto_region 7 with(fail);generalize hX:World.setCell _ _ _=S;have bP:=cP hX;have bW:an S wb 156 #[.pointer (some ⟨s,0,none⟩),.slice GA gn gc,.slice MA mn mc,.slice FA fn fc,Y,ar]:=hX▸al.1.blk.aK 4 _;have n:pk ⟨s,wb,sA,bU,bx,sl,GA,gn,gc,MA,mn,mc,FA,fn,fc,M,F,ar⟩ av S Y:=⟨al.1.src.cZ bP (λb O h=>by simp only at O;omega),bW,al.1.fr.trans (bP.mono λ_ h=>.inr h),ad⟩
 have Q:=al.2.1.on bP ad;have ag:=al.2.2.1.cD bP (λb O _=>ad);have bj:=ay n Q ag;have cv:ck<S:=Q.lt;clear hX bP bW n Q ag a0 ak af;obtain⟨a0,ak,af⟩:=bj.1.blk.two;go_upto_region 8 with(fail);generalize U:World.alloc _ _=aO;have aM:=aX U;have aC:=aL U;have P:pk ⟨s,wb,sA,bU,bx,sl,GA,gn,gc,MA,mn,mc,FA,fn,fc,M,F,ar⟩ S aO Y:=⟨bj.1.src.cZ aM (λ_ _ h=>h),bj.1.blk.aj aM,aM.mono λ_ h=>h.elim,bj.1.le⟩
 have H1:=ah P aC;clear U aM aC P a0 ak af;obtain⟨a0,ak,af⟩:=H1.1.blk.two;go_wp2_with(fail);refine(aZ aO s sA bU bx sl 14 H1.1.src ad ad).mono ?_;rintro e aW ⟨cw,rfl,bE,au,h,he⟩;have bt:=H1.1.next bl h he.fr;have ch:=H1.2.on he.fr ad;have b1:=ah bt ch;clear h he bt ch a0 ak af H1;go_upto_region 14 with(fail);have h0:=bj.1.wr bg.1;have aq:∀b,(⟨s,wb,sA,bU,bx,sl,GA,gn,gc,MA,mn,mc,FA,fn,fc,M,F,ar⟩:kL).MW b->b<B:=λb O=>by rcases O with O|O<;>(simp only at O;omega)
 refine KY cw bE au d bp ⟨s,wb,sA,bU,bx,sl,GA,gn,gc,MA,mn,mc,FA,fn,fc,M,F,ar⟩ ck B eE bi ps V T ls N S Y av a9 QA cq qc bQ a1 be bC bL on bF Y (by simp only;omega) ad ad bv aW h0.ne h0.src.lt h0.blk.lt (by have:=bj.2.2.one.len;simpa using this) b1.1.fr.size (ae ⟨h0,bj.2.1,Sl.cD bg.2.1 bj.1.fr,bj.2.2,bj.2.2.names aq,aq⟩) (ae ⟨b1.1,bj.2.1.on b1.1.fr (λh=>by rcases h with h|h<;>(simp only at h;omega)),b1.2⟩) ad ad bc (ae ⟨al.2.2.2.2,al.2.2.2.1.free ad bg.2.2.1,λaU bu=>bg.2.2.2 aU ad⟩) aJ (ae ⟨bg.1,bg.2.1,bj.1.fr⟩) bq _ ?hQ ?hN _ (by assumption)
 case hQ=>exact λc a d v w h=>hQ0 _ _ _ _ _ h
 case hN=>
  intro r ab hp;unfold l8 at hp;obtain⟨z,aH,ap,aB,J2,aG,hp⟩:=hp
  iterate 240 obtain⟨_,hp⟩:=hp
  obtain⟨hF,rfl⟩:=hp;obtain⟨aF,m,st,a6,cs,R,l,J,am,I,aN,y,K,hle,aa,aD,aT⟩:=hF;obtain⟨eo,en,es,EA,em,ec,rs,cr,b5,rc,cR,n1,c1,A2,n2,c2,cu,n3,c3,rfl,_⟩:=lN I;obtain⟨d0,aQ,aS⟩:=am.two;have a3:=rY R l J I aN y K aa;have aK:ck<ab:=l.lt;have b3:B<=ab:=ad;clear R l J am I aN y K aa;clear b1
  try dsimp only[Exit.inBlock,Exit.then]
  go_wp2_with(at_builtin;refine bJ pr rfl (.tmp 244) (.tmp 246) rfl a3.2.2.1.two a3.2.2.2.1 rfl rfl rfl ad ad b3 ?_;intro cj bK cV ao aA ci b8;have dv:=ay ao aA ci;clear ao aA ci b8);refine⟨?_,by simp[GG,intOf];omega⟩;obtain⟨R,l,J,I,aN,y,K,aa⟩:=a3.o;obtain⟨bm,bd,bB⟩:=dv.o;have aw:∀b,(Value.slice aB J2 aG).ownBlock=some b->B<=b:=λb O=>(J.two.lt O).1;unfold rK;refine⟨z,aH,ap,cj,J2+1,bK,N - 1,?_⟩
  iterate 241 apply Exists.intro
  refine⟨?_,rfl⟩;refine⟨aF,ls++(m++[st]),a6,ad,R.fresh bg.1 bd (λb O=>by have:=aw b O;omega),l.on bd (λO=>by have:=aw _ O;omega),?_,al.2.2.2.1.snoc aN y K ad,aa,aD⟩;have aj:(ls++(m++[st])).map bk=(ls++m).map bk++[bk st]:=by simp
  rw[aj];exact(J.swap.grow bm bd bB).swap
theorem JS(p:kL)(ck B:Nat)(eE bi:Value)(d:Nat)(ps:List (ByteArray×Bool))(V T:NI)(av:World)(aJ:Nat)(a9:ByteArray)(QA:NH)(cq qc:Nat)(bQ:Value)(i:gN av p aJ)(k:Sl av (off p.MW av) QA cq (ps.map cC))(bq:av.heap.size<=ck)(bn:ck<B)(bG:B<=ck+1)(bv:cq<=2)(bc:d<=2)(Z:mM T aJ)(u:∀Y,Y<aJ->JZ p Y)(dz:Exit->Act->World->Prop)(hQ0:∀c a d v w,dz (.panic c) (a.put d v) w->dz (.panic c) a w)(x:∀r j,rK p ck B eE bi d ps V T av aJ a9 QA cq qc bQ r j->dz (.exit 0) r j)
  (be:NH) (bp bC:Nat) (bL:NH) (on bF:Nat) (N:Int) {gL o u8 gO eY aQ u16 bx bI eZ e3 e4 e5 e6 e7 e8 e9 fa fb fd fe ff u32 fh fi fj fl fm fo fp fr fs ft fu fv fw fx fy fz fA fB fD fE fF fG fH fI fJ fK fL fM fN fO fP u64 fR fS fT fU fV fW fX fY fZ f3 f4 f5 f6 f7 f8 f9 ga gb gd ge gf gg gh gi gj gk gl gm go gp gq gr gs gt gu H I am aK aM aS aX aY a4 bb bs bt bD bE bT bU b1 b9 ca cb ce cf cg ch cn cp ct cx cy cz cE cF cI cJ cK cM cN cR cS cT cV cW cX cY cZ c5 c6 c7 c8 c9 da db dc dd de df dg dh di dj dk dl dm dn dp dq dr ds dt du dv dw dx dy dA dC dD dE dF dG dH dI dJ dK dL dM dN dO dQ dR dT dU dV dW dZ d0 d1 d2 d3 d4 d5 d6 d7 d8 d9 ea eb ec ed ee ef eh ei ej ek el em en eo eq er es et eu ev ex ey ez eA eB eC eD eF eG eH eI eK eL eM eN eO eP eQ eR eS eT eU eV eW bY aR:Value} (wr:World) (hI:K9 p ck B eE bi d ps V T av aJ a9 QA cq qc bQ be bp bC bL on bF N wr):Code.wp prog (Code.loop x8) dz ⟨#[.pointer (some ⟨p.wb,0,none⟩),eE,.slice be bp bC,.int .i64 (d:Int),bi,gL,.pointer (some ⟨ck,0,none⟩),o,u8,gO,eY,.slice bL on bF,.int .i64 N,bY,aR,aQ,u16,bx,bI,eZ,e3,e4,e5,e6,e7,e8,e9,fa,fb,fd,fe,ff,u32,fh,fi,fj,fl,fm,fo,fp,fr,fs,ft,fu,fv,fw,fx,fy,fz,fA,fB,fD,fE,fF,fG,fH,fI,fJ,fK,fL,fM,fN,fO,fP,u64,fR,fS,fT,fU,fV,fW,fX,fY,fZ,f3,f4,f5,f6,f7,f8,f9,ga,gb,gd,ge,gf,gg,gh,gi,gj,gk,gl,gm,go,gp,gq,gr,gs,gt,gu,H,I,am,aK,aM,aS,aX,aY,a4,bb,bs,bt,bD,bE,bT,bU,b1,b9,ca,cb,ce,cf,cg,ch,cn,cp,ct,cx,cy,cz,cE,cF,cI,cJ,cK,cM,cN,cR,cS,cT,cV,cW,cX,cY,cZ,c5,c6,c7,c8,c9,da,db,dc,dd,de,df,dg,dh,di,dj,dk,dl,dm,dn,dp,dq,dr,ds,dt,du,dv,dw,dx,dy,dA,dC,dD,dE,dF,dG,dH,dI,dJ,dK,dL,dM,dN,dO,dQ,dR,dT,dU,dV,dW,dZ,d0,d1,d2,d3,d4,d5,d6,d7,d8,d9,ea,eb,ec,ed,ee,ef,eh,ei,ej,ek,el,em,en,eo,eq,er,es,et,eu,ev,ex,ey,ez,eA,eB,eC,eD,eF,eG,eH,eI,eK,eL,eM,eN,eO,eP,eQ,eR,eS,eT,eU,eV,eW],[]⟩ wr:=by
 refine wp_loop (rK p ck B eE bi d ps V T av aJ a9 QA cq qc bQ) GG ?_ (λa j hI=>HL p ck B eE bi d ps V T av aJ a9 QA cq qc bQ i k bq bn bG bv bc Z u dz hQ0 x a j hI);unfold rK
 iterate 248 apply Exists.intro
 exact⟨hI,rfl⟩
theorem oi{w:World}{P:Nat->Prop}:∀l:List ByteArray,D.aQ w P (l.map D.s) (l.map Value.string)
 | []=>by simp only[Nr,D.aQ]
 | x::l=>by simp only[M7];exact cx.2 ⟨_,rfl,oi l⟩
theorem zd{w:World}{P:Nat->Prop}:∀(l:NI) (xs:List Value),D.aQ w P (l.map D.s) xs->xs=l.map Value.string
 | [],xs,h=>by simpa only[Nr,D.aQ] using h
 | x::l,xs,h=>by
  simp only[M7] at h;obtain⟨y,rfl,az⟩:=cx.1 h;rw[M7,zd l y az]
theorem vY{w:World}{A:NH}{n:Nat}{l:NI}(h:Sl w P A n (l.map D.s)):Src w 1 A n (l.map Value.string):=by
 obtain⟨xs,ba,hs⟩:=h.src (z:=1) (λd hd=>by obtain⟨x,_,rfl⟩:=Ns.1 hd;rfl)
 rwa [zd l xs ba] at hs
theorem wa(p:kL)(aJ:Nat)(u:∀Y,Y<aJ->JZ p Y):JZ p aJ:=by
 intro d f V T R aU aq a9 ps QA cq qc bQ w hd j hw hN cd Z cc bv;obtain⟨s,wb,sA,bU,bx,sl,GA,gn,gc,MA,mn,mc,FA,fn,fc,M,F,ar⟩:=p;have bl:=hw.ne;have bX:=hw.src.lt;have cD:=hw.blk.lt;have b4:V.length=aU:=by have:=hN.1;simpa using this
 simp only at bl bX cD;have H:=cQ hw hN cc Z u;clear hw hN cc Z u;go_enter func68,ntmps68;go_upto_region 2 with(fail);generalize be:World.alloc _ _=W;have aF:=aX be;have bK:=aL be;have cZ:W=w.heap.size+1:=by rw[<-be];simp
 have ag:Gr (λ_=>False) (w.heap.size+1) 9 1 (W.alloc (.cells #[] 9)) (some ⟨W,0,none⟩) 0 0 []:=(Gr.lit (w:=W) (n:=0) (l:=[]) rfl (by rfl) ad (by simp only[D.aQ])).base ad;rw[cZ] at ag;have aw:Src (W.alloc (.cells #[] 9)) 1 R aU (V.map Value.string):=vY (Sl.cD H.2.1 ((aF.mono λ_ h=>h.elim).alloc _));have Q:R=none->aU=0:=λh=>by subst h;exact Sl.none_ H.2.1
 have b3:w.heap.size+1<=(W.alloc (.cells #[] 9)).heap.size:=by simp;omega
 have al:=ah aF bK;clear be aF bK;go_upto_region 3 with(at_builtin;refine rz kQ rfl (.tmp 17) (.tmp 18) rfl ag (oi V) (by simpa using b4) aw Q rfl rfl ad ad b3 ?_;intro cu c3 b6 dP aa bP bo;have aD:=ah dP aa;clear dP aa bP bo);have bf:Ext W b6:=(NC.alloc _:Ext W (W.alloc (.cells #[] 9))).eW (aD.2.below (by simp) λk aj h=>by
  simp[Value.ownBlock] at h;omega)
 have dE:=H.1.aj (al.1.trans bf);obtain⟨a0,ak,af⟩:=dE.blk.two;have bN:=ay dE bf aD.1;clear dE bf aD ag aw Q;go_wp2_with(fail);refine(aZ b6 s sA bU bx sl ((f:Int)+1) bN.1.src ad ad).mono ?_;rintro e cO ⟨cw,rfl,bE,ce,h,he⟩;have ai:Fr (λb=>b=s) w cO:=((al.1.trans bN.2.1).mono λ_ h=>h.elim).trans he.fr;have aN:=bN.1.next h he.fr;have au:=bN.2.2.cD he.fr λb O _=>⟨λh=>h,ad⟩
 simp only[Nm,Nu] at au;have g:=(al.2.aj bN.2.1).on he.fr ad;have a2:aJ<=24:=H.1.k0;have cC:=ae (show K9 ⟨s,wb,sA,bU,bx,sl,GA,gn,gc,MA,mn,mc,FA,fn,fc,M,F,ar⟩ w.heap.size (w.heap.size+1) (.agg #[a9,.slice QA cq qc,bQ]) (.int .i64 (f:Int)) d ps V T w aJ a9 QA cq qc bQ cu aU c3 none 0 0 cw cO from
  ⟨V,[],aJ,ad,⟨aN.src,aN.blk,ai.mono λ_ h=>.inl h,a2⟩,g,⟨Gr.strs au,Gr.nil _ _ _ _ _,λb _ h=>by cases h⟩,Made.nil _ _ _ _ _,λx hx=>Nc.2 (.inl hx),cd⟩)
 clear h he ai aN au g a0 ak af bN;skip
 go_wp2_with(fail);refine JS ⟨s,wb,sA,bU,bx,sl,GA,gn,gc,MA,mn,mc,FA,fn,fc,M,F,ar⟩ w.heap.size (w.heap.size+1) (.agg #[a9,.slice QA cq qc,bQ]) (.int .i64 (f:Int)) d ps V T w aJ a9 QA cq qc bQ H.1 H.2.2.1 (MU _) ad (MU _) bv hd H.2.2.2.1 H.2.2.2.2 _ ?hQ ?hX cu aU c3 none 0 0 cw cO cC.o
 case hQ=>exact λ_ _ d _ _ h=>by cases d<;>exact h
 case hX=>
  intro r wf hI;unfold rK at hI;obtain⟨z,aH,ap,aB,J2,aG,hI⟩:=hI
  iterate 242 obtain⟨_,hI⟩:=hI
  obtain⟨⟨a1,ls,L,_,hC,ax,hG,hM,hV,i⟩,rfl⟩:=hI;have bZ:=ay hC hG hM;clear hC ax hG hM hV i cC;go_wp2;go_ret;obtain⟨hC,hG,hM⟩:=bZ.o;exact⟨ls,L,aB,J2,aG,rfl,hM,hG.two.cap.1,hG.two.sl (λb O hp=>⟨by have:=hp.1;omega,O⟩) (λb O hp=>⟨ad,O⟩),hC.wr H.1,hC.fr⟩
theorem x9(p:kL):∀L,JZ p L:=λL=>by
 induction L using Nat.strongRecOn with
 | _ L aq=>exact wa p L aq
def kd(n:Nat):Code->Option Code
 | .seq a b=>match a with
  | .region k _ _=>if k=n then some (.seq a b) else kd n b
  | .seq x y=>match kd n (.seq x y) with
   | some c=>some c
   | none=>kd n b
  | _=>kd n b
 | _=>none
noncomputable def xz(n:Nat):Code:=match (Tryz.f34.body.bind (kd n)).getD .skip with
 | .seq a _=>a
 | c=>c
noncomputable def n9(n:Nat):Code:=match (Tryz.f34.body.bind (kd n)).getD .skip with
 | .seq _ b=>b
 | _=>.skip
noncomputable def IK(n:Nat):Code:=(Tryz.f34.body.bind (kd n)).getD .skip
def kA(w:World)(e:Ending)(ab:World):Prop:=∃(p:bN) (GA:NH) (gn gc:Nat) (MA:NH) (mn mc:Nat) (FA:NH) (fn fc:Nat),e=.returned (.agg #[.slice GA gn gc,.slice MA mn mc,.slice FA fn fc])/\pe p/\gn<=gc/\mn<=mc/\fn<=fc/\
 Sl ab (fresh w ab) GA gn (p.globals.map iR)/\Sl ab (fresh w ab) MA mn (p.af.map eF)/\Sl ab (fresh w ab) FA fn (p.funcs.map dA)/\Ext w ab
def nD(M:List bM):Prop:=∀i m,M[i]?=some m->m.name=iV i/\0<=m.size/\m.size<=3/\(m.re=true->m.size=0)
structure pT(S w:World)(A:NH)(n c:Nat)(l:List Int)(ar:Bool)(MA:NH)(mn mc:Nat)(M:List bM):Prop where
 src:cu w (S.heap.size+1) A n c l
 blk:an w (S.heap.size+1+1) 156 #[.pointer (some ⟨S.heap.size+1,0,none⟩),.slice none 0 0,.slice MA mn mc,.slice none 0 0,.int .i64 24,.bool ar]
 res:an w S.heap.size 56 #[.slice none 0 0,.slice none 0 0,.slice none 0 0]
 ms:Gr (λ_=>False) (S.heap.size+1+1+1) 112 3 w MA mn mc (M.map eF)
 nm:mn<=4
 ok:nD M
 ext:Ext S w
section
variable {S w ab:World} {A:NH} {n c:Nat} {l:List Int} {ar:Bool} {MA:NH} {mn mc:Nat} {M:List bM}
theorem pT.next(h:pT S w A n c l ar MA mn mc M)(hs:cu ab (S.heap.size+1) A n c l)(O:Fr (λb=>b=S.heap.size+1) w ab):pT S ab A n c l ar MA mn mc M:=
 ⟨hs,h.blk.on O ad,h.res.on O ad,h.ms.cD O (λb O _=>⟨λh=>h,ad⟩),h.nm,h.ok,Fr.low (M:=λb=>b=S.heap.size+1) ((h.ext.mono λ_ h=>h.elim).trans O) λk aj=>ad⟩
theorem pT.aj(h:pT S w A n c l ar MA mn mc M)(O:Ext w ab):pT S ab A n c l ar MA mn mc M:=h.next (h.src.cZ O λ_ _ h=>h) (O.mono λ_ h=>h.elim)
theorem pT.fresh(h:pT S w A n c l ar MA mn mc M){g:Nat}(aR:S.heap.size+1+1<g)(bD:(Value.slice MA mn mc).ownBlock≠some g)(O:Fr (λb=>b=g) w ab):pT S ab A n c l ar MA mn mc M:=
 ⟨h.src.cZ O (λb O h=>ad),h.blk.on O ad,h.res.on O ad,h.ms.dm O.size (λb ap hp=>O.block b ap (hp.elim (λh=>h.elim) λhp j=>by subst j;exact bD hp)),h.nm,h.ok,Fr.low (M:=λb=>b=g) ((h.ext.mono λ_ h=>h.elim).trans O) λk aj=>ad⟩
theorem pT.add(h:pT S w A n c l ar MA mn mc M){ev:NH}{eC:Nat}{m:bM}(aR:Gr (λ_=>False) (S.heap.size+1+1+1) 112 3 ab ev (mn+1) eC (M.map eF++[eF m]))(J:Fr (λb=>(Value.slice MA mn mc).ownBlock=some b) w ab)
  (hn:mn+1<=4) (ca:nD (M++[m])):pT S (ab.setCell ⟨S.heap.size+1+1,2,none⟩ (.slice ev (mn+1) eC)) A n c l ar ev (mn+1) eC (M++[m]):=by
 have bD:∀b,(Value.slice MA mn mc).ownBlock=some b->S.heap.size+1+1+1<=b:=λb O=>(h.ms.lt O).1;have aA:Fr (λb=>b=S.heap.size+1+1) ab (ab.setCell ⟨S.heap.size+1+1,2,none⟩ (.slice ev (mn+1) eC)):=(Fr.refl (λb=>b=S.heap.size+1+1) ab).setCell (.inl rfl) _;refine⟨(h.src.cZ J λb O ag=>by have:=bD b ag;omega).cZ aA (λb O ag=>ad),(h.blk.on J λag=>by have:=bD _ ag;omega).aK 2 _,(h.res.on J λag=>by have:=bD _ ag;omega).on aA ad,?_,hn,ca,
  Fr.low (M:=λb=>b=S.heap.size+1+1) ((Fr.low (M:=λb=>(Value.slice MA mn mc).ownBlock=some b) ((h.ext.mono λ_ h=>h.elim).trans J) λk aj=>by have:=bD k aj;omega).mono (λ_ h=>h.elim) |>.trans aA) λk aj=>ad⟩
 rw[Na,M7,Nr];exact aR.cD aA (λb O _=>⟨λh=>h,ad⟩)
end
theorem nD.snoc{M:List bM}(h:nD M)(aN:M.length=i){re:Bool}{sz:Int}(h0:0<=sz)(aV:sz<=3)(ba:re=true->sz=0):nD (M++[⟨iV i,re,sz⟩]):=by
 intro k m hm;by_cases aj:k<M.length
 .rw[List.getElem?_append_left aj] at hm;exact h k m hm
 .rw[List.getElem?_append_right ad] at hm;have cK:k - M.length=0:=by
   exact wz
  rw[cK] at hm;simp at hm;subst hm;have:k=i:=ad;subst this;exact⟨rfl,h0,aV,ba⟩
def GB(S:World)(gT:Value)(Q:Exit->Act->World->Prop)(K:Act->World->Prop):Prop:=∀(A:NH) (n c:Nat) (l:List Int) (ar:Bool) (MA:NH) (mn mc:Nat) (M:List bM) {hs hu gL gQ o u8 gO eY T av bY aR aQ u16 bx bI eZ e3 e4 e5 e6 e7 e8 e9 fa fb fd fe ff u32 fh fi fj fl fm fo fp fr fs ft fu fv fw fx fy fz fA fB fD fE fF fG fH fI fJ fK fL fM fN fO fP u64 fR fS fT fU fV fW fX fY fZ f3 f4 f5 f6 f7 f8 f9 ga gb gd ge gf gg gh gi gj gk gl gm go gp gq gr gs gt gu H I am aK aM aS aX aY a4 bb bs bt bD bE bT bU b1 b9 ca cb ce cf cg ch cn cp ct cx cy cz cE cF cI cJ cK cM cN cR cS cT cV cW cX cY cZ c5 c6 c7 c8 c9 da db dc dd de df dg dh di dj dk dl dm dn dp dq dr ds dt du dv dw dx dy dA dC dD dE dF dG dH dI dJ dK dL dM dN dO dQ dR dT dU dV dW dZ d0 d1 d2 d3 d4 d5 d6 d7 d8 d9 ea eb ec ed ee ef eh ei ej ek el em en eo eq er es et eu ev ex ey ez eA eB eC eD eF eG eH eI eK eL eM eN eO eP eQ eR eS eT eU eV eW bQ cc gy gz gA gB gC gD gE gF gG gH gI gJ gK:Value} (w:World),1<=mn->pT S w A n c l ar MA mn mc M->
 Code.wp prog (xz 13) (Exit.then K Q) ⟨#[gT,hs,.pointer (some ⟨S.heap.size,0,none⟩),.pointer (some ⟨S.heap.size+1+1,0,none⟩),hu,gL,gQ,o,u8,gO,eY,T,av,bY,aR,aQ,u16,bx,bI,eZ,e3,e4,e5,e6,e7,e8,e9,fa,fb,fd,fe,ff,u32,fh,fi,fj,fl,fm,fo,fp,fr,fs,ft,fu,fv,fw,fx,fy,fz,fA,fB,fD,fE,fF,fG,fH,fI,fJ,fK,fL,fM,fN,fO,fP,u64,fR,fS,fT,fU,fV,fW,fX,fY,fZ,f3,f4,f5,f6,f7,f8,f9,ga,gb,gd,ge,gf,gg,gh,gi,gj,gk,gl,gm,go,gp,gq,gr,gs,gt,gu,H,I,am,aK,aM,aS,aX,aY,a4,bb,bs,bt,bD,bE,bT,bU,b1,b9,ca,cb,ce,cf,cg,ch,cn,cp,ct,cx,cy,cz,cE,cF,cI,cJ,cK,cM,cN,cR,cS,cT,cV,cW,cX,cY,cZ,c5,c6,c7,c8,c9,da,db,dc,dd,de,df,dg,dh,di,dj,dk,dl,dm,dn,dp,dq,dr,ds,dt,du,dv,dw,dx,dy,dA,dC,dD,dE,dF,dG,dH,dI,dJ,dK,dL,dM,dN,dO,dQ,dR,dT,dU,dV,dW,dZ,d0,d1,d2,d3,d4,d5,d6,d7,d8,d9,ea,eb,ec,ed,ee,ef,eh,ei,ej,ek,el,em,en,eo,eq,er,es,et,eu,ev,ex,ey,ez,eA,eB,eC,eD,eF,eG,eH,eI,eK,eL,eM,eN,eO,eP,eQ,eR,eS,eT,eU,eV,eW,bQ,cc,gy,gz,gA,gB,gC,gD,gE,gF,gG,gH,gI,gJ,gK],[]⟩ w
theorem cp.K1{α:Type}{f:α->List Value}{sz:Nat}{w:World}{B n m:Nat}{A:NH}{l:List α}(h:cp (EF f) sz w B A n l)(hm:m<=n):cp (EF f) sz w B A m (l.take m):=by
 refine⟨by have:=h.1;simp;omega,λh0=>?_⟩;obtain⟨b,o,bF,O,hc⟩:=h.2 ad;exact⟨b,o,bF,O,λk x hx=>hc k x ((List.getElem?_take_of_lt (i:=k) (by have:=(List.getElem?_eq_some_iff.1 hx).1;simp at this;omega)).symm.trans hx)⟩
theorem EN(m:Nat)(A:NH)(n c:Nat)(l:List Int)(w:World)(hm:m<=1000)(h:cp (EF bQ) 1 w w.heap.size A n l)(hc:n<=c) :
  Calls prog 66 #[.slice A n c,m] w λe ab=>(∃I a6 aD,e=.returned (.slice I a6 aD)/\a6<=m/\∃ag,cp (EF bQ) 1 w w I a6 ag)/\w=ab:=by
 have H:=ae h;by_cases hn:n<=m
 .have q:decide ((n:Int) > (m:Int))=false:=by simp;omega
  clear h;go_enter func66,ntmps66;go_wp2;go_ret;exact⟨⟨A,n,c,rfl,hn,l,H.o⟩,rfl⟩
 .obtain⟨b,o,rfl,O⟩:=h.some_ ad;have q:decide ((n:Int) > (m:Int))=true:=by simp;omega
  have b4:(0:Int)<=(m:Int):=ad;have cr:(m:Int)<=(c:Int):=ad;clear h;go_enter func66,ntmps66;go_wp2;go_ret;exact⟨⟨_,m,_,rfl,MU _,_,H.K1 ad⟩,rfl⟩
theorem Fs(aN:i<4):strOf [byteOf (97+(i:Int))]=iV i:=by
 have h:∀k:Fin 4,strOf [byteOf (97+((k.val:Nat):Int))]=iV k.val:=by decide
 exact h ⟨i,aN⟩
theorem wS:cq prog 53 109 (.agg #[NF,(0:Int)]) 2 24:=cq.mk' Tryz.underlying53 (by kernel_rfl) rfl ad
def sV(G:List (ByteArray×Int)):Prop:=∀i g,G[i]?=some g->g.1=dX i∧-2<=g.2/\g.2<=2
theorem sV.snoc{G:List (ByteArray×Int)}(h:sV G)(aN:G.length=i){v:Int}(h0:-2<=v)(aV:v<=2):sV (G++[(dX i,v)]):=by
 intro k m hm;by_cases aj:k<G.length
 .rw[List.getElem?_append_left aj] at hm;exact h k m hm
 .rw[List.getElem?_append_right ad] at hm;have cK:k - G.length=0:=by
   exact wz
  rw[cK] at hm;simp at hm;subst hm;have:k=i:=ad;subst this;exact⟨rfl,h0,aV⟩
structure yg(S:World)(u:Nat)(w:World)(A:NH)(n c:Nat)(l:List Int)(ar:Bool)(MA:NH)(mn mc:Nat)(M:List bM)(GA:NH)(gn gc:Nat)(G:List (ByteArray×Int))(be:NH)(bC:Nat):Prop where
 src:cu w (S.heap.size+1) A n c l
 blk:an w (S.heap.size+1+1) 156 #[.pointer (some ⟨S.heap.size+1,0,none⟩),.slice GA gn gc,.slice MA mn mc,.slice none 0 0,.int .i64 24,.bool ar]
 res:an w S.heap.size 56 #[.slice none 0 0,.slice none 0 0,.slice none 0 0]
 ms:Sl w (λb=>S.heap.size+1+1+1<=b/\b<u) MA mn (M.map eF)
 mc:mn<=mc
 rows:lS u 109 2 9 1 w GA gn gc (G.map iR) be gn bC ((G.map (·.1)).map D.s)
 nm:1<=mn/\mn<=4
 ok:nD M
 ng:gn<=2
 An:sV G
 ext:Ext S w
 hD:S.heap.size+1+1+1<=u/\u<=w.heap.size
section
variable {S w ab:World} {u:Nat} {A:NH} {n c:Nat} {l:List Int} {ar:Bool} {MA:NH} {mn mc:Nat} {M:List bM} {GA:NH} {gn gc:Nat} {G:List (ByteArray×Int)} {be:NH} {bC:Nat}
theorem pT.Lx(h:pT S w A n c l ar MA mn mc M)(ac:1<=mn):yg S w.heap.size w A n c l ar MA mn mc M none 0 0 [] none 0:=
 ⟨h.src,h.blk,h.res,h.ms.sl (λ_ _ h=>h.elim) (λb O aT=>⟨aT,O⟩),h.ms.cap.1,lS.nil _ _ _ _ _ _,⟨ac,h.nm⟩,h.ok,ad,(λi g h=>by cases h),h.ext,by have:=h.blk.lt;omega,MU _⟩
theorem yg.next(h:yg S u w A n c l ar MA mn mc M GA gn gc G be bC)(hs:cu ab (S.heap.size+1) A n c l)(O:Fr (λb=>b=S.heap.size+1) w ab):yg S u ab A n c l ar MA mn mc M GA gn gc G be bC:=by
 have hD:=h.hD;exact⟨hs,h.blk.on O ad,h.res.on O ad,h.ms.ak λb hp=>O.block b (ax hp.2) (ax hp.1),h.mc,h.rows.cD O (λb O _=>ad),h.nm,h.ok,h.ng,h.An,Fr.low (M:=λb=>b=S.heap.size+1) ((h.ext.mono λ_ h=>h.elim).trans O) λk aj=>ad,hD.1,by have:=O.size;omega⟩
theorem yg.aj(h:yg S u w A n c l ar MA mn mc M GA gn gc G be bC)(O:Ext w ab):yg S u ab A n c l ar MA mn mc M GA gn gc G be bC:=h.next (h.src.cZ O λ_ _ h=>h) (O.mono λ_ h=>h.elim)
theorem yg.add(h:yg S u w A n c l ar MA mn mc M GA gn gc G be bC){bc z:NH}{L ap:Nat}{g:ByteArray×Int}(ba:lS u 109 2 9 1 ab bc (gn+1) L ((G++[g]).map iR) z (gn+1) ap (((G++[g]).map (·.1)).map D.s))
  (J:Fr (λb=>(Value.slice GA gn gc).ownBlock=some b\/(Value.slice be gn bC).ownBlock=some b) w ab) (hn:gn+1<=2) (ca:sV (G++[g])) :
  yg S u (ab.setCell ⟨S.heap.size+1+1,1,none⟩ (.slice bc (gn+1) L)) A n c l ar MA mn mc M bc (gn+1) L (G++[g]) z ap:=by
 have hD:=h.hD;have bD:∀b,((Value.slice GA gn gc).ownBlock=some b\/(Value.slice be gn bC).ownBlock=some b)->u<=b:=λb O=>by
  rcases O with O|O
  .exact(h.rows.one.lt O).1
  .exact(h.rows.two.lt O).1
 have aA:Fr (λb=>b=S.heap.size+1+1) ab (ab.setCell ⟨S.heap.size+1+1,1,none⟩ (.slice bc (gn+1) L)):=(Fr.refl (λb=>b=S.heap.size+1+1) ab).setCell (.inl rfl) _;have hs:=J.size;have bO:=aA.size;refine⟨(h.src.cZ J λb O ag=>by have:=bD b ag;omega).cZ aA (λb O ag=>ad),(h.blk.on J λag=>by have:=bD _ ag;omega).aK 1 _,(h.res.on J λag=>by have:=bD _ ag;omega).on aA ad,
  h.ms.ak λb hp=>(aA.block b (ax hp.2) (ax hp.1)).trans (J.block b (ax hp.2) λag=>by have:=bD b ag;have:=hp.2;omega),h.mc,ba.cD aA (λb O _=>ad),h.nm,h.ok,hn,ca,?_,hD.1,ad⟩
 have ac:Ext S ab:=Fr.low (M:=λb=>(Value.slice GA gn gc).ownBlock=some b\/(Value.slice be gn bC).ownBlock=some b) ((h.ext.mono λ_ h=>h.elim).trans J) λk aj=>by have:=bD k aj;omega
 exact AM
end
def GC(S:World)(gT:Value)(Q:Exit->Act->World->Prop)(K:Act->World->Prop):Prop:=∀(u:Nat) (A:NH) (n c:Nat) (l:List Int) (ar:Bool) (MA:NH) (mn mc:Nat) (M:List bM) (GA:NH) (gn gc:Nat) (G:List (ByteArray×Int)) (be:NH) (bC:Nat) {hs hu gL gQ u8 gO eY T av bY aR aQ u16 bx bI eZ e3 e4 e5 e6 e7 e8 e9 fa fb fd fe ff u32 fh fi fj fl fm fo fp fr fs ft fu fv fw fx fy fz fA fB fD fE fF fG fH fI fJ fK fL fM fN fO fP u64 fR fS fT fU fV fW fX fY fZ f3 f4 f5 f6 f7 f8 f9 ga gb gd ge gf gg gh gi gj gk gl gm go gp gq gr gs gt gu H I am aK aM aS aX aY a4 bb bs bt bD bE bT bU b1 b9 ca cb ce cf cg ch cn cp ct cx cy cz cE cF cI cJ cK cM cN cR cS cT cV cW cX cY cZ c5 c6 c7 c8 c9 da db dc dd de df dg dh di dj dk dl dm dn dp dq dr ds dt du dv dw dx dy dA dC dD dE dF dG dH dI dJ dK dL dM dN dO dQ dR dT dU dV dW dZ d0 d1 d2 d3 d4 d5 d6 d7 d8 d9 ea eb ec ed ee ef eh ei ej ek el em en eo eq er es et eu ev ex ey ez eA eB eC eD eF eG eH eI eK eL eM eN eO eP eQ eR eS eT eU eV eW bQ cc gy gz gA gB gC gD gE gF gG gH gI gJ gK:Value} (w:World),yg S u w A n c l ar MA mn mc M GA gn gc G be bC->
 Code.wp prog (xz 19) (Exit.then K Q) ⟨#[gT,hs,.pointer (some ⟨S.heap.size,0,none⟩),.pointer (some ⟨S.heap.size+1+1,0,none⟩),hu,gL,gQ,.slice be gn bC,u8,gO,eY,T,av,bY,aR,aQ,u16,bx,bI,eZ,e3,e4,e5,e6,e7,e8,e9,fa,fb,fd,fe,ff,u32,fh,fi,fj,fl,fm,fo,fp,fr,fs,ft,fu,fv,fw,fx,fy,fz,fA,fB,fD,fE,fF,fG,fH,fI,fJ,fK,fL,fM,fN,fO,fP,u64,fR,fS,fT,fU,fV,fW,fX,fY,fZ,f3,f4,f5,f6,f7,f8,f9,ga,gb,gd,ge,gf,gg,gh,gi,gj,gk,gl,gm,go,gp,gq,gr,gs,gt,gu,H,I,am,aK,aM,aS,aX,aY,a4,bb,bs,bt,bD,bE,bT,bU,b1,b9,ca,cb,ce,cf,cg,ch,cn,cp,ct,cx,cy,cz,cE,cF,cI,cJ,cK,cM,cN,cR,cS,cT,cV,cW,cX,cY,cZ,c5,c6,c7,c8,c9,da,db,dc,dd,de,df,dg,dh,di,dj,dk,dl,dm,dn,dp,dq,dr,ds,dt,du,dv,dw,dx,dy,dA,dC,dD,dE,dF,dG,dH,dI,dJ,dK,dL,dM,dN,dO,dQ,dR,dT,dU,dV,dW,dZ,d0,d1,d2,d3,d4,d5,d6,d7,d8,d9,ea,eb,ec,ed,ee,ef,eh,ei,ej,ek,el,em,en,eo,eq,er,es,et,eu,ev,ex,ey,ez,eA,eB,eC,eD,eF,eG,eH,eI,eK,eL,eM,eN,eO,eP,eQ,eR,eS,eT,eU,eV,eW,bQ,cc,gy,gz,gA,gB,gC,gD,gE,gF,gG,gH,gI,gJ,gK],[]⟩ w
theorem tW{w:World}{x:ByteArray×Int}{cs:List Value}:(iR x).rep w P cs↔cs=[.string x.1,.int .i64 x.2]:=by
 unfold iR;rw[bK,cx];exact Eu
theorem rr{P:Program}{ops:Array Oper}{Q:Exit->Act->World->Prop}{R:World->World->Prop}{tails:List Nat}{j k:Nat}{f:Nat->PT}{a:Act}{w:World}(h:oX P ops Q R tails i (f i) a w)(az:oX P ops Q R tails j (f j) a w)(aV:oX P ops Q R tails k (f k) a w):cY P ops Q R tails (.pick [i,j,k] f) a w:=λm hm=>by
 simp only[Nk,List.not_mem_nil,or_false] at hm;rcases hm with rfl|rfl|rfl
 .exact h
 .exact az
 .exact aV
theorem Fa(aN:i<3)(O:IntKind.u8.wrap (IntKind.i64.wrap (48+(i:Int)))=bv):(⟨#[103]⟩++strOf [byteOf bv]:ByteArray)=dX i:=by
 subst O;have h:∀k:Fin 3,(⟨#[103]⟩++strOf [byteOf (IntKind.u8.wrap (IntKind.i64.wrap (48+((k.val:Nat):Int))))]:ByteArray)=dX k.val:=by decide
 exact h ⟨i,aN⟩
theorem eE(V:World)(g:Nat)(v1:Int)(h0:V.cell? ⟨g,0,none⟩=some (.int .u8 v1)) :
  (convert 65 9 (.slice (some ⟨g,0,none⟩) 1 1)).run prog V=.ok (.string (strOf [byteOf v1])) V:=by
 have:=run_convert_bytes_arg (P:=prog) V 65 5 Tryz.underlying65 Tryz.underlying5 g 0 1 1 [v1] rfl (λi aN=>by
  obtain rfl:i=0:=ad;exact h0) 9 Tryz.underlying9
 rw[this];rfl
theorem Ja:cq prog 54 118 (.agg #[NF,(),()]) 3 64:=cq.mk' Tryz.underlying54 (by kernel_rfl) rfl ad
theorem EB:cq prog 115 160 (.agg #[NF,false]) 2 24:=cq.mk' Tryz.underlying115 (by kernel_rfl) rfl ad
def rJ(F:List aI):Prop:=∀i f,F[i]?=some f->f.name=jS i/\(∃n,n<=2/\f.params.map (·.1)=fk n)/\(i=0->f.params=[])/\f.body=.nil
theorem rJ.snoc{F:List aI}(h:rJ F)(aN:F.length=i){n:Nat}(hn:n<=2)(hp:ps.map (·.1)=fk n)(h0:i=0->ps=[]):rJ (F++[⟨jS i,ps,.nil⟩]):=by
 intro k m hm;by_cases aj:k<F.length
 .rw[List.getElem?_append_left aj] at hm;exact h k m hm
 .rw[List.getElem?_append_right ad] at hm;have cK:k - F.length=0:=by
   exact wz
  rw[cK] at hm;simp at hm;subst hm;have:k=i:=ad;subst this;exact⟨rfl,⟨n,hn,hp⟩,h0,rfl⟩
theorem Hv{w:World}{nm:ByteArray}{PA:NH}{pn pc:Nat}(hc:pn<=pc)(h:Sl w P PA pn (ps.map cC)):(dA ⟨nm,ps,.nil⟩).rep w P [nm,.slice PA pn pc,()]:=by
 unfold dA;rw[bK];exact cx.2 ⟨_,rfl,aN.2 ⟨PA,pn,pc,_,rfl,hc,h,aN.2 ⟨none,0,0,[],rfl,MU _,Sl.bY _,aR.2 rfl⟩⟩⟩
structure At(S:World)(u:Nat)(w:World)(A:NH)(n c:Nat)(l:List Int)(ar:Bool)(MA:NH)(mn mc:Nat)(M:List bM)(GA:NH)(gn gc:Nat)(G:List (ByteArray×Int))(be:NH)(bC:Nat)(FA:NH)(fn fc:Nat)(F:List aI):Prop where
 src:cu w (S.heap.size+1) A n c l
 blk:an w (S.heap.size+1+1) 156 #[.pointer (some ⟨S.heap.size+1,0,none⟩),.slice GA gn gc,.slice MA mn mc,.slice FA fn fc,.int .i64 24,.bool ar]
 res:an w S.heap.size 56 #[.slice none 0 0,.slice none 0 0,.slice none 0 0]
 ms:Sl w (λb=>S.heap.size+1+1+1<=b/\b<u) MA mn (M.map eF)
 gs:Sl w (λb=>S.heap.size+1+1+1<=b/\b<u) GA gn (G.map iR)
 vs:Sl w (λb=>S.heap.size+1+1+1<=b/\b<u) be gn ((G.map (·.1)).map D.s)
 fs:Gr (λb=>u<=b) u 118 3 w FA fn fc (F.map dA)
 mc:mn<=mc
 gc:gn<=gc
 nm:1<=mn/\mn<=4
 ok:nD M
 ng:gn<=2
 An:sV G
 nf:fn<=4
 Lk:rJ F
 ext:Ext S w
 hD:S.heap.size+1+1+1<=u/\u<=w.heap.size
section
variable {S w ab:World} {u io:Nat} {A:NH} {n c:Nat} {l:List Int} {ar:Bool} {MA:NH} {mn mc:Nat} {M:List bM} {GA:NH} {gn gc:Nat} {G:List (ByteArray×Int)} {be:NH} {bC:Nat} {FA:NH} {fn fc:Nat} {F:List aI}
theorem yg.Ly(h:yg S io w A n c l ar MA mn mc M GA gn gc G be bC):At S w w A n c l ar MA mn mc M GA gn gc G be bC none 0 0 []:=by
 have hD:=h.hD;exact⟨h.src,h.blk,h.res,h.ms.mono λb hp=>⟨hp.1,by have:=hp.2;omega⟩,h.rows.one.sl (λb O hp=>⟨by have:=hp.1;omega,O⟩) (λb O aT=>⟨ad,O⟩),h.rows.two.sl (λb O hp=>⟨by have:=hp.1;omega,O⟩) (λb O aT=>⟨ad,O⟩),Gr.nil _ _ _ _ _,h.mc,h.rows.one.cap.1,h.nm,h.ok,h.ng,h.An,ad,(λi f h=>by cases h),h.ext,ad,MU _⟩
theorem At.next(h:At S u w A n c l ar MA mn mc M GA gn gc G be bC FA fn fc F)(hs:cu ab (S.heap.size+1) A n c l)(O:Fr (λb=>b=S.heap.size+1) w ab):At S u ab A n c l ar MA mn mc M GA gn gc G be bC FA fn fc F:=by
 have hD:=h.hD;have aj:∀b,(S.heap.size+1+1+1<=b/\b<u)->ab.heap[b]?=w.heap[b]?:=λb hp=>O.block b (ax hp.2) (ax hp.1);exact⟨hs,h.blk.on O ad,h.res.on O ad,h.ms.ak aj,h.gs.ak aj,h.vs.ak aj,h.fs.cD O (λb O _=>⟨ad,ad⟩),h.mc,h.gc,h.nm,h.ok,h.ng,h.An,h.nf,h.Lk,Fr.low (M:=λb=>b=S.heap.size+1) ((h.ext.mono λ_ h=>h.elim).trans O) λk aj=>ad,hD.1,by have:=O.size;omega⟩
theorem At.add(h:At S u w A n c l ar MA mn mc M GA gn gc G be bC FA fn fc F){cB:NH}{a4:Nat}{f:aI}(aR:Gr (λb=>u<=b) u 118 3 ab cB (fn+1) a4 (F.map dA++[dA f]))(J:Fr (λb=>(Value.slice FA fn fc).ownBlock=some b) w ab)
  (hn:fn+1<=4) (ca:rJ (F++[f])):At S u (ab.setCell ⟨S.heap.size+1+1,3,none⟩ (.slice cB (fn+1) a4)) A n c l ar MA mn mc M GA gn gc G be bC cB (fn+1) a4 (F++[f]):=by
 have hD:=h.hD;have bD:∀b,(Value.slice FA fn fc).ownBlock=some b->u<=b:=λb O=>(h.fs.lt O).1;have aA:Fr (λb=>b=S.heap.size+1+1) ab (ab.setCell ⟨S.heap.size+1+1,3,none⟩ (.slice cB (fn+1) a4)):=(Fr.refl (λb=>b=S.heap.size+1+1) ab).setCell (.inl rfl) _;have hs:=J.size;have bO:=aA.size;have aj:∀b,(S.heap.size+1+1+1<=b/\b<u)->(ab.setCell ⟨S.heap.size+1+1,3,none⟩ (.slice cB (fn+1) a4)).heap[b]?=w.heap[b]?:=λb hp=>(aA.block b (ax hp.2) (ax hp.1)).trans (J.block b (ax hp.2) λag=>by have:=bD b ag;have:=hp.2;omega);refine⟨(h.src.cZ J λb O ag=>by have:=bD b ag;omega).cZ aA (λb O ag=>ad),(h.blk.on J λag=>by have:=bD _ ag;omega).aK 3 _,(h.res.on J λag=>by have:=bD _ ag;omega).on aA ad,h.ms.ak aj,h.gs.ak aj,h.vs.ak aj,?_,h.mc,h.gc,h.nm,h.ok,h.ng,h.An,hn,ca,?_,hD.1,ad⟩
 .rw[Na,M7,Nr];exact aR.cD aA (λb O _=>⟨ad,ad⟩)
 .have ac:Ext S ab:=Fr.low (M:=λb=>(Value.slice FA fn fc).ownBlock=some b) ((h.ext.mono λ_ h=>h.elim).trans J) λk aj=>by have:=bD k aj;omega
  exact AM
end
def GD(S:World)(gT:Value)(Q:Exit->Act->World->Prop)(K:Act->World->Prop):Prop:=∀(u:Nat) (A:NH) (n c:Nat) (l:List Int) (ar:Bool) (MA:NH) (mn mc:Nat) (M:List bM) (GA:NH) (gn gc:Nat) (G:List (ByteArray×Int)) (be:NH) (bC:Nat) (FA:NH) (fn fc:Nat) (F:List aI) {hs hu gL gQ u8 gO eY T av bY aR aQ u16 bx bI eZ e3 e4 e5 e6 e7 e8 e9 fa fb fd fe ff u32 fh fi fj fl fm fo fp fr fs ft fu fv fw fx fy fz fA fB fD fE fF fG fH fI fJ fK fL fM fN fO fP u64 fR fS fT fU fV fW fX fY fZ f3 f4 f5 f6 f7 f8 f9 ga gb gd ge gf gg gh gi gj gk gl gm go gp gq gr gs gt gu H I am aK aM aS aX aY a4 bb bs bt bD bE bT bU b1 b9 ca cb ce cf cg ch cn cp ct cx cy cz cE cF cI cJ cK cM cN cR cS cT cV cW cX cY cZ c5 c6 c7 c8 c9 da db dc dd de df dg dh di dj dk dl dm dn dp dq dr ds dt du dv dw dx dy dA dC dD dE dF dG dH dI dJ dK dL dM dN dO dQ dR dT dU dV dW dZ d0 d1 d2 d3 d4 d5 d6 d7 d8 d9 ea eb ec ed ee ef eh ei ej ek el em en eo eq er es et eu ev ex ey ez eA eB eC eD eF eG eH eI eK eL eM eN eO eP eQ eR eS eT eU eV eW bQ cc gy gz gA gB gC gD gE gF gG gH gI gJ gK:Value} (w:World),1<=fn->At S u w A n c l ar MA mn mc M GA gn gc G be bC FA fn fc F->
 Code.wp prog (xz 32) (Exit.then K Q) ⟨#[gT,hs,.pointer (some ⟨S.heap.size,0,none⟩),.pointer (some ⟨S.heap.size+1+1,0,none⟩),hu,gL,gQ,.slice be gn bC,u8,gO,eY,T,av,bY,aR,aQ,u16,bx,bI,eZ,e3,e4,e5,e6,e7,e8,e9,fa,fb,fd,fe,ff,u32,fh,fi,fj,fl,fm,fo,fp,fr,fs,ft,fu,fv,fw,fx,fy,fz,fA,fB,fD,fE,fF,fG,fH,fI,fJ,fK,fL,fM,fN,fO,fP,u64,fR,fS,fT,fU,fV,fW,fX,fY,fZ,f3,f4,f5,f6,f7,f8,f9,ga,gb,gd,ge,gf,gg,gh,gi,gj,gk,gl,gm,go,gp,gq,gr,gs,gt,gu,H,I,am,aK,aM,aS,aX,aY,a4,bb,bs,bt,bD,bE,bT,bU,b1,b9,ca,cb,ce,cf,cg,ch,cn,cp,ct,cx,cy,cz,cE,cF,cI,cJ,cK,cM,cN,cR,cS,cT,cV,cW,cX,cY,cZ,c5,c6,c7,c8,c9,da,db,dc,dd,de,df,dg,dh,di,dj,dk,dl,dm,dn,dp,dq,dr,ds,dt,du,dv,dw,dx,dy,dA,dC,dD,dE,dF,dG,dH,dI,dJ,dK,dL,dM,dN,dO,dQ,dR,dT,dU,dV,dW,dZ,d0,d1,d2,d3,d4,d5,d6,d7,d8,d9,ea,eb,ec,ed,ee,ef,eh,ei,ej,ek,el,em,en,eo,eq,er,es,et,eu,ev,ex,ey,ez,eA,eB,eC,eD,eF,eG,eH,eI,eK,eL,eM,eN,eO,eP,eQ,eR,eS,eT,eU,eV,eW,bQ,cc,gy,gz,gA,gB,gC,gD,gE,gF,gG,gH,gI,gJ,gK],[]⟩ w
theorem E3(aN:i<4)(h0:i≠0)(O:bv=48+(i:Int)):(⟨#[102]⟩++strOf [byteOf bv]:ByteArray)=jS i:=by
 subst O;have h:∀k:Fin 4,k.val≠0->(⟨#[102]⟩++strOf [byteOf (48+((k.val:Nat):Int))]:ByteArray)=jS k.val:=by decide
 exact h ⟨i,aN⟩ h0
theorem FD(aN:i<3)(O:IntKind.u8.wrap (IntKind.i64.wrap (48+(i:Int)))=bv):(⟨#[112]⟩++strOf [byteOf bv]:ByteArray)=vr i:=by
 subst O;have h:∀k:Fin 3,(⟨#[112]⟩++strOf [byteOf (IntKind.u8.wrap (IntKind.i64.wrap (48+((k.val:Nat):Int))))]:ByteArray)=vr k.val:=by decide
 exact h ⟨i,aN⟩
section
attribute [local go_sem ↓] gI gJ
end
end Go.Proofs.YtnigabjngpnbiabGreat
