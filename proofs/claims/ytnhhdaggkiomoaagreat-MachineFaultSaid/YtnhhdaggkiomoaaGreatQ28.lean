/- Part 28 of the proof. No condition of its own. -/
import Derived.Test.YtnhhdaggkiomoaaGreatQ12
import Derived.Test.YtnhhdaggkiomoaaGreatQ27
namespace Go.Proofs.YtnhhdaggkiomoaaGreat
open Go.RowKit Go.Proofs.Tryz
set_option maxRecDepth 1000000
set_option maxHeartbeats 25600000
set_option linter.unusedVariables false
variable{d:D}{t:Int}{cs:List Value}{b:Nat}{P:Nat→Prop}{A I:Ls}{p:Prop}
def EN(w:World)(x:az)(e:Ending)(ab:World):Prop:=
 ∃(IA:Ls) (i ic:Nat) (S:Ls) (k lc:Nat),e=.returned (.agg (fv x.op x.target x.dg IA i ic S k lc))∧(eg x).rep ab (fresh w ab) (fv x.op x.target x.dg IA i ic S k lc).toList∧Ext w ab
structure kn(w wr:World)(l:List dL)(op ah:Int)(an:Array Value)(a1:List dn)(k:Nat)(IA:Ls)(i ic:Nat)(S:Ls)(j lc:Nat):Prop where
 ext:Ext w wr
 b4:aq wr w.heap.size 180 an
 b6:aq wr (w.heap.size+1) 59 (fv 0 0 false none 0 0 none 0 0)
 b7:aq wr (w.heap.size+2) 59 (fv op ah false IA i ic S j lc)
 g2:ld (w.heap.size+3) 54 4 56 3 wr IA i ic ((bT l (a1.take k)).map bk) S j lc ((cB l (a1.take k)).map di)
section
variable {w wr aS aT X:World} {l:List dL} {op ah:Int} {an:Array Value} {a1:List dn} {k:Nat} {IA:Ls} {i ic:Nat} {S:Ls} {j lc:Nat}
theorem nR{own:Nat→Prop}{g:Nat}(h:Ext w wr)(he:Ext wr aS)(J:Fr own aS aT)(aC:∀b,own b→w.heap.size≤b)(a2:w.heap.size≤g)(hX:Fr (fun b=>b=g) aT X):Ext w X:=by
 have e1:Fr (fun b=>w.heap.size≤b) w X:=Fr.trans (Fr.mono h fun _ h=>h.elim) (Fr.trans (Fr.mono he fun _ h=>h.elim) (Fr.trans (J.mono aC) (hX.mono fun b O=>by subst O;exact a2)));exact e1.low fun _ h=>h
theorem kn.place(h:kn w wr l op ah an a1 k IA i ic S j lc)(he:Ext wr aS){r:eO}(bx:a1[k]?=some (.mx r)){de:Ls}{dj:Nat}
  (a2:Gr (fun b=>w.heap.size+3≤b∧(Value.slice IA i ic).ownBlock≠some b) (w.heap.size+3) 56 3 aT de (j+1) dj ((cB l (a1.take k)).map di++[di (l6 l r)]))
  (J:Fr (fun b=>(Value.slice S j lc).ownBlock=some b) aS aT) (bn:dq aS S j lc de (j+1) dj) (hX:aT.setCell ⟨w.heap.size+2,11,none⟩ (.slice de (j+1) dj)=X) :
  kn w X l op ah an a1 (k+1) IA i ic de (j+1) dj:=by
 have b8:=cL hX;have ak:∀b,(Value.slice S j lc).ownBlock=some b→w.heap.size+3≤b:=fun b O=>(h.g2.two.lt O).1;refine⟨nR h.ext he J (fun b O=>by have:=ak b O;omega) ad b8,?_,?_,?_,?_⟩
 ·exact((h.b4.ai he).on J fun O=>by have:=ak _ O;omega).on b8 ad
 ·exact((h.b6.ai he).on J fun O=>by have:=ak _ O;omega).on b8 ad
 ·rw[←hX];exact((h.b7.ai he).on J fun O=>by have:=ak _ O;omega).aM 11 _
 ·have e1:bT l (a1.take (k+1))=bT l (a1.take k):=by rw[aZ bx,(hZ l _ _).1];simp[bT]
  have e2:(cB l (a1.take (k+1))).map di=(cB l (a1.take k)).map di++[di (l6 l r)]:=by rw[aZ bx,(hZ l _ _).2];simp[cB]
  rw[e1,e2];exact(((h.g2.ai he).swap.grow a2 J bn).swap).c4 b8 fun b O _=>ad
theorem kn.int(h:kn w wr l op ah an a1 k IA i ic S j lc)(he:Ext wr aS){x:VE}(bx:a1[k]?=some (.ex x)){cZ:Nat}
  (a2:Gr (fun b=>w.heap.size+3≤b∧(Value.slice S j lc).ownBlock≠some b) (w.heap.size+3) 54 4 aT I (i+1) cZ ((bT l (a1.take k)).map bk++[bk (bL l x)]))
  (J:Fr (fun b=>(Value.slice IA i ic).ownBlock=some b) aS aT) (bn:dq aS IA i ic I (i+1) cZ) (hX:aT.setCell ⟨w.heap.size+2,10,none⟩ (.slice I (i+1) cZ)=X) :
  kn w X l op ah an a1 (k+1) I (i+1) cZ S j lc:=by
 have b8:=cL hX;have ak:∀b,(Value.slice IA i ic).ownBlock=some b→w.heap.size+3≤b:=fun b O=>(h.g2.one.lt O).1;refine⟨nR h.ext he J (fun b O=>by have:=ak b O;omega) ad b8,?_,?_,?_,?_⟩
 ·exact((h.b4.ai he).on J fun O=>by have:=ak _ O;omega).on b8 ad
 ·exact((h.b6.ai he).on J fun O=>by have:=ak _ O;omega).on b8 ad
 ·rw[←hX];exact((h.b7.ai he).on J fun O=>by have:=ak _ O;omega).aM 10 _
 ·have e1:cB l (a1.take (k+1))=cB l (a1.take k):=by rw[aZ bx,(hZ l _ _).2];simp[cB]
  have e2:(bT l (a1.take (k+1))).map bk=(bT l (a1.take k)).map bk++[bk (bL l x)]:=by rw[aZ bx,(hZ l _ _).1];simp[bT]
  rw[e1,e2];exact((h.g2.ai he).grow a2 J bn).c4 b8 fun b O _=>ad
end
theorem tO{V aS:World}{B:Nat}{n c aP aK:Nat}(h:d.rep aS (fresh V aS) cs)(aR:B≤V.heap.size)(ac:∀b,(Value.slice A n c).ownBlock=some b→b<V.heap.size)(av:∀b,(Value.slice I aP aK).ownBlock=some b→b<V.heap.size):
  d.rep aS (lv (fun b=>B≤b∧(Value.slice I aP aK).ownBlock≠some b) aS (.slice A n c)) cs:=
 D.aL (fun b O=>⟨⟨KX aR O.1,fun hc=>by have:=av b hc;have:=O.1;omega⟩,O.2,fun hc=>by have:=ac b hc;have:=O.1;omega⟩) _ _ h
theorem Dp(dN:va)(g:Nat)(l:List dL)(M:List bI)(F:List aK)(a3:Bool)(s:ByteArray)(a1:List dn)(v:dL)(f:aK)(J:dB l s=some v)(ap:v.kind=3)(h0:0≤v.n)(hF:F[v.n.toNat]?=some f)(bZ:je M l f.params a1)(jy:f.params.length≤1000)
  (eo en:Int) (es:ByteArray) (EA:Ls) (em ec:Nat) (rs:ByteArray) (cc:Ls) (c7 rc:Nat) (bY:Ls) (n1 c1:Nat) (A2:Ls) (n2 c2:Nat) (cC:Ls) (n3 c3:Nat) (st:Int)
  (w:World) (bS:ts w g l) (hM:x7 w g M) (ce:y5 w g F) (hs:Sl w (au w) bY n1 (a1.map gH)) :
  Calls prog 146 #[.pointer (some ⟨g,0,none⟩),.agg #[.int .i64 (if a3 then 4 else 3),.string s,.int .i64 eo,.int .i64 en,.string es,.slice EA em ec,.string rs,.slice cc c7 rc,.slice bY n1 c1,.slice A2 n2 c2,.slice cC n3 c3],.int .i64 st] w
   (EN w (lu a3 v.n (bT l a1) (cB l a1))):=by
 have hlen:=lN bZ;have dg:a1.length=n1:=by rw[←hs.1,KK]
 obtain⟨aP,bV,co,ca,cR,cu,bm⟩:=C2 bZ J hF bS hM ce hs;obtain⟨bi,cI,bD⟩:=v;simp only at ap h0 hF;subst ap;obtain⟨ah,rfl⟩:=KL h0;clear hs bS hM ce bZ J hF h0;obtain⟨op,cy⟩:∃op:Int,op=if a3 then 3 else 2:=⟨_,rfl⟩
 have hx:lu a3 (ah:Int) (bT l a1) (cB l a1)=⟨op,ah,false,none,j9,bT l a1,cB l a1⟩:=by rw[cy];rfl
 rw[hx];clear hx;obtain⟨b0,bw⟩:∃b0:Int,b0=if a3 then 4 else 3:=⟨_,rfl⟩
 have c5:(b0 == 4)=a3:=by rw[bw];cases a3<;>rfl
 rw[←bw];clear bw;go_enter func146,ntmps146;cases a3
 all_goals
  simp only[if_true,Lm,if_false] at cy;go_upto_region 4 with(fail);generalize ba:World.alloc _ _=W;have aw:=kq ba;have b7:=jo ba;have cD:=g5 ba;have a5:aq W (w.heap.size+2) 59 (fv op 0 false none 0 0 none 0 0):=by rw[←ba,cy];exact aq.hL _ _ _ (by simp)
  clear ba cy;obtain⟨bq,T,b6,fF⟩:=iS aw b7 cD a5;obtain⟨a2,S,ln,lc,dt,cS,y⟩:=ca.on aw;have ch:=ae y;obtain⟨a0,ai,af⟩:=b7.two;clear aw b7 cD a5 y;refine q4 (fun _=>False) [6,11] (.free 0 (.free 1 (.free 2 (.held 3 (.free 4 (.held 5 (.pick [6,10] (fun i=>bif i == 6 then .free 7 (.free 8 (.free 9 (.pick [10] (fun _=>.pick [11] (fun _=>.free 12 (.stop)))))) else .pick [6] (fun _=>.free 7 (.free 8 (.free 9 (.pick [11] (fun _=>.free 12 (.stop)))))))))))))) ?_
  iterate 3 refine tf ?_
  refine th ?_;refine tf ?_;refine th ?_;refine la (P:=?_) (ops:=?_) (Q:=?_) (R:=?_) (tails:=?_) (rest:=.pick [11] (fun _=>.free 12 (.stop))) (aa:=?_) (C:=fun db V=>Ext W V∧aq V db 152 #[.string ⟨#[]⟩,.int .i64 0,.int .i64 0]∧W.heap.size≤db) (fun key=>?_) ?_
  rotate_left 6
  ·
   refine aY ?_ ?_
   ·
    refine bN rfl (fun K hK=>?_) rfl;go_simp;refine(dV S ln lc l s W.drew (ch.on (Fr.ext Lo.drew)) dt).mono ?_;rintro e aS ⟨rfl,ar⟩;rw[bV.o];simp only[iU,qY];refine dO hK ?_;clear hK K
    iterate 3 refine tf ?_
    refine ao ?_;refine dP ?_;generalize hV:World.alloc _ _=V;have aR:=aG hV;have bj:Ext W V:=hV▸(Fr.aF ar).alloc _;have hle:=(Fr.aF ar).size;clear hV ar;generalize aS.heap.size=db at *;exact key db V ⟨bj,aR,hle⟩
   ·
    refine dP ?_;refine ao ?_;refine bN rfl (fun K hK=>?_) rfl;go_simp;generalize hV:World.alloc _ _=V;have aR:=aG hV;have bj:=aU hV;clear hV;refine(dV S ln lc l s V.drew (ch.on (Fr.ext bj.drew)) dt).mono ?_;rintro e aS ⟨rfl,ar⟩;rw[bV.o];simp only[iU,qY];refine dO hK ?_;clear hK K
    iterate 3 refine tf ?_
    have cE:=aR.ai (Fr.aF ar);have aN:=bj.trans (Fr.aF ar);clear aR bj ar;exact key W.heap.size aS ⟨aN,cE,KG _⟩
  ·
   rintro db V ⟨bj,b5,aj⟩;have cY:=fF.lt;obtain⟨a8,am,aF⟩:=b5.two;clear a0 ai af cS;refine ao ?_;refine bN rfl (fun K hK=>?_) rfl;go_simp;refine dO hK ?_;clear hK K;refine tf ?_;refine b3 ?_;generalize hX:World.setCell _ _ _=X;obtain⟨bo,br,_⟩:=pM b5 bj aj hX;have a4:=ae (bq.trans br);have bg:=ae (T.ai br);have u:=ae (b6.ai br);have m:=fF.ai br;have aX:=ae m;clear hX a8 am aF b5 bj br;obtain⟨a8,am,aF⟩:=bo.two;obtain⟨a0,ai,af⟩:=m.two;clear m;go_upto_region 12 with(fail);generalize cr:World.setCell _ _ _=Y;have H:=u.lt;have bz:=cL cr;have aQ:aq Y (w.heap.size+2) 59 (fv op ah false none 0 0 none 0 0):=cr▸aX.aM 1 _;have a7:Ext w Y:=(Fr.trans (a4.mono fun _ h=>h.elim) bz).low (fun b hm=>ad);have N:=bg.on bz ad;have aD:=u.on bz ad;obtain⟨a9,bu,bb,cb⟩:=iS a7 N aD aQ;have bh:=bo.on bz ad;obtain⟨ci,FA,fn,fc,aC,f3,cj⟩:=cu.o;have cg:F[ah]?=some f:=by have:=co.o;simpa using this
   have aI:ah<fn:=by have ac:=(List.getElem?_eq_some_iff.1 cg).1;have av:=cj.1;rw[KK] at av;omega
   obtain⟨b1,c6,a6,cs,rfl,cx,bG,bE,cJ,cn⟩:=cj.gZ nh aI;rw[cg] at bG;injection bG with bG;subst bG;obtain⟨PA,pn,pc,cf,bn,bc,rfl,c4,cv,cA,_⟩:=kS.1 bE;replace f3:=(a7.cell ci (fun h=>h)).trans f3
   have f4:=(a7.cell cx (fun h=>h)).trans (cn 1 _ rfl);have bW:=a7.size;have bO:b1<Y.heap.size:=KH cx bW;have cp:g<Y.heap.size:=KH ci bW;have gt:f.params.length=pn:=by rw[←cA.1,KK]
   have cl:=ae cA;obtain⟨a8,am,aF⟩:=bh.two;obtain⟨a0,ai,af⟩:=N.two;obtain rfl:n1=pn:=ad;have bR:=ae (show kn w Y l op ah #[.int .i64 b0,.string s,.int .i64 eo,.int .i64 en,.string es,.slice EA em ec,.string rs,.slice cc c7 rc,.slice bY n1 c1,.slice A2 n2 c2,.slice cC n3 c3] a1 0 none 0 0 none 0 0 from
    ⟨a7,N,aD,aQ,ld.nil _ _ _ _ _ _⟩)
   clear cr bz a7 aD aQ bo cj bE cJ cn cA cx a4 bg u aX aj N bh a9 bu bb cb;go_wp2;refine eK (fun _=>False) [(0,3),(1,3),(2,3),(3,3),(4,0),(5,3),(6,0),(7,3),(8,3),(9,0),(10,3)] ?_
   iterate 4 refine pf ?_
   refine ph ?_;refine pf ?_;refine ph ?_
   iterate 2 refine pf ?_
   refine ph ?_;refine pf ?_;refine aE ?_;clear a8 am aF f3 f4 bO;go_wp2;clear a0 ai af;go_loopw [11] (fun bd wr=>∃(k:Nat) (IA:Ls) (i ic:Nat) (S:Ls) (j lc:Nat),k≤n1∧bd=.int .i64 k∧i≤k∧j≤k∧kn w wr l op ah #[.int .i64 b0,.string s,.int .i64 eo,.int .i64 en,.string es,.slice EA em ec,.string rs,.slice cc c7 rc,.slice bY n1 c1,.slice A2 n2 c2,.slice cC n3 c3] a1 k IA i ic S j lc) (fun bd _=>n1 - (intOf bd).toNat)
   case atStart=>exact⟨0,none,0,0,none,0,0,ad,rfl,KG _,KG _,⟨bR.ext.drew,bR.b4,bR.b6,bR.b7,bR.g2.ai Lo.drew⟩⟩
   case round=>
    obtain⟨k,IA,i,ic,S,j,lc,ap,rfl,bX,z,hC⟩:=hrel;clear bR;have bR:=ae hC;obtain⟨a0,ai,af⟩:=hC.b4.two;by_cases ak:k<n1
    ·obtain⟨ab,cP,a,cs,rfl,ay,bx,ag,bp,Z⟩:=(bm.on (Fr.ext hC.ext)).gZ sI ak;obtain⟨pb,fu,q,cU,rfl,eN,bK,bv,aZ,f0⟩:=(cl.on (Fr.ext hC.ext)).gZ ru ak;obtain rfl:=nP.1 bv;have bf:=f0 1 _ rfl;have bQ:pb<wr.heap.size:=eN;have bC:ab<wr.heap.size:=ay;have HA:=ae bx;rcases m6 aP.o bK bx with⟨r,rfl,bs,eF⟩|⟨x,rfl,bs,ck⟩
     ·rw[bs] at bf;obtain⟨bF,cN,cF,cz,bU,zc,rfl,aB⟩:=Dw ag;have c0:=Z 0 _ rfl;have cM:=Z 1 _ rfl;have e4:=Z 2 _ rfl;have be:=Z 3 _ rfl;have bM:=Z 4 _ rfl;have b2:=Z 5 _ rfl;have b8:=Z 6 _ rfl;simp only[KQ] at c0;have U:=ae aB;clear hC bp Z bv aZ f0 eN ay ag bx bK aB;go_upto_region 20 with(fail);generalize hV:World.alloc _ _=V;have L:=aU hV;have bt:=aG hV;have a5:=bR.b7.ai L;replace bf:=((Fr.tb L).1 pb _ bQ).trans bf
      replace bQ:pb<V.heap.size:=KH bQ L.size
      have m1:=bR.b7.lt;have cw:=L.size;clear hV a0 ai af c0 cM e4 be bM b2 b8 bC;obtain⟨d0,aL,aM⟩:=bt.two;obtain⟨a0,ai,af⟩:=a5.two;clear a5 bt;go_wp2;refine eK (fun _=>False) [(0,3),(1,0),(2,3),(3,3),(4,3),(5,3),(6,0),(7,3)] ?_;refine pf ?_;refine ph ?_
      iterate 4 refine pf ?_
      refine ph ?_;refine pf ?_;refine aE ?_;clear bf bQ;go_wp2;refine eK (fun _=>False) [(0,3),(1,0),(2,3),(3,3),(4,0),(5,3),(6,1),(7,1),(8,2),(9,3),(10,2)] ?_;refine pf ?_;refine bP (v:=?_) rfl (by rfl) (fun V hV=>?_) ?_;rotate_left
      ·obtain⟨hVc,hVf⟩:=Fr.jk hV
       (go_simp<;>with_reducible rfl)
      try simp only[PU]
      iterate 2 refine pf ?_
      refine bP (v:=?_) rfl (by rfl) (fun V hV=>?_) ?_;rotate_left
      ·obtain⟨hVc,hVf⟩:=Fr.jk hV
       (go_simp<;>with_reducible rfl)
      try simp only[PU]
      refine pf ?_;refine aJ rfl (fun K hK=>?_);go_simp;refine(dN g l M r eF st bF cN cF cz _ (ca.on (bR.ext.trans L).drew.drew) (cR.on (bR.ext.trans L).drew.drew) (D.on U.o (Fr.ext L.drew.drew))).mono ?_;rintro e aS ⟨g6,g7,cO,cG,cV,rfl,ct,ar⟩;refine dz hK (ar) ?_;clear hK K;have aN:Ext V aS:=Fr.aF (Fr.aF ar);have n:(di (l6 l r)).rep aS (fresh V aS) [.bool g6,.int .i64 g7,.slice cO cG cV]:=ct;have bj:=L.trans aN;have aW:=aN.size;have cH:∀b,(Value.slice IA i ic).ownBlock=some b→b<V.heap.size:=fun b O=>by have:=(bR.g2.one.lt O).2;omega
      have aV:∀b,(Value.slice S j lc).ownBlock=some b→b<V.heap.size:=fun b O=>by have:=(bR.g2.two.lt O).2;omega
      refine q0 ?_;refine ax rfl (fun K hK=>?_);rw[if_pos (by rfl)];refine qJ Hb (.tmp 92) (.tmp 98) (by rfl) (bR.g2.ai bj).two (tO n ad aV cH) (by rfl) (by rfl) (by rfl) ad ad ad ?_;intro de dj aT bB az al b9;have m:=(bR.b7.ai bj).on az (fun O=>by have:=(bR.g2.two.lt O).1;omega);have b4:=bH bB az al bj;clear bB az al ct n ar aN bj L a0 ai af d0 aL aM cH aV aW;obtain⟨a0,ai,af⟩:=m.two;clear m;refine dO hK ?_;clear hK K;refine pf ?_;refine ax rfl (fun K hK=>?_);go_simp;refine dO hK ?_;clear hK K;refine aE ?_;clear a0 ai af;generalize hX:World.setCell aT _ _=cT;have bJ:=ae (bR.place b4.2.2.2 HA.o b4.1 b4.2.1 b4.2.2.1 hX);clear hX;go_wp2;go_roundw
      case rel=>exact⟨k+1,IA,i,ic,de,j+1,dj,ad,by go_num,ad,ad,bJ.o⟩
      case measure=>exact aH
     ·rw[bs] at bf;obtain⟨bU,cQ,zc,dd,cG,xs,cO,c9,cV,rfl,aB⟩:=Du ag;have c0:=Z 0 _ rfl;have cM:=Z 1 _ rfl;have e4:=Z 2 _ rfl;have be:=Z 3 _ rfl;have bM:=Z 4 _ rfl;have b2:=Z 5 _ rfl;have b8:=Z 6 _ rfl;simp only[KQ] at c0;have U:=ae aB;clear hC bp Z bv aZ f0 eN ay ag bx bK aB;go_upto_region 20 with(fail);generalize hV:World.alloc _ _=V;have L:=aU hV;have bt:=aG hV;have a5:=bR.b7.ai L;replace bf:=((Fr.tb L).1 pb _ bQ).trans bf
      replace bQ:pb<V.heap.size:=KH bQ L.size
      have m1:=bR.b7.lt;have cw:=L.size;clear hV a0 ai af c0 cM e4 be bM b2 b8 bC;obtain⟨d0,aL,aM⟩:=bt.two;obtain⟨a0,ai,af⟩:=a5.two;clear a5 bt;go_wp2;refine eK (fun _=>False) [(0,3),(1,0),(2,3),(3,3),(4,3),(5,3),(6,0),(7,3)] ?_;refine pf ?_;refine ph ?_
      iterate 4 refine pf ?_
      refine ph ?_;refine pf ?_;refine aE ?_;clear bf bQ;go_wp2;refine eK (fun _=>False) [(0,3),(1,0),(2,3),(3,3),(4,0),(5,3),(6,1),(7,1),(8,2),(9,3),(10,2)] ?_;refine pf ?_;refine bP (v:=?_) rfl (by rfl) (fun V hV=>?_) ?_;rotate_left
      ·obtain⟨hVc,hVf⟩:=Fr.jk hV
       (go_simp<;>with_reducible rfl)
      try simp only[PU]
      iterate 2 refine pf ?_
      refine bP (v:=?_) rfl (by rfl) (fun V hV=>?_) ?_;rotate_left
      ·obtain⟨hVc,hVf⟩:=Fr.jk hV
       (go_simp<;>with_reducible rfl)
      try simp only[PU]
      refine pf ?_;refine aJ rfl (fun K hK=>?_);go_simp;refine(gf l x ck g st _ _ _ _ _ _ _ (ca.on (bR.ext.trans L).drew.drew) (D.on U.o (Fr.ext L.drew.drew))).mono ?_;rintro e aS ⟨cX,c8,cK,da,cW,dc,rfl,ct,ar⟩;refine dz hK (ar) ?_;clear hK K;have aN:Ext V aS:=Fr.aF (Fr.aF ar);have n:(bk (bL l x)).rep aS (fresh V aS) [.int .i64 cX,.int .i64 c8,.string cK,.slice da cW dc]:=ct;have bj:=L.trans aN;have aW:=aN.size;have cH:∀b,(Value.slice IA i ic).ownBlock=some b→b<V.heap.size:=fun b O=>by have:=(bR.g2.one.lt O).2;omega
      have aV:∀b,(Value.slice S j lc).ownBlock=some b→b<V.heap.size:=fun b O=>by have:=(bR.g2.two.lt O).2;omega
      refine q0 ?_;refine ax rfl (fun K hK=>?_);rw[if_pos (by rfl)];refine qJ pv (.tmp 102) (.tmp 108) (by rfl) (bR.g2.ai bj).one (tO n ad cH aV) (by rfl) (by rfl) (by rfl) ad ad ad ?_;intro I cZ aT bB az al b9;have m:=(bR.b7.ai bj).on az (fun O=>by have:=(bR.g2.one.lt O).1;omega);have b4:=bH bB az al bj;clear bB az al ct n ar aN bj L a0 ai af d0 aL aM cH aV aW;obtain⟨a0,ai,af⟩:=m.two;clear m;refine dO hK ?_;clear hK K;refine pf ?_;refine ax rfl (fun K hK=>?_);go_simp;refine dO hK ?_;clear hK K;refine aE ?_;clear a0 ai af;generalize hX:World.setCell aT _ _=cT;have bJ:=ae (bR.int b4.2.2.2 HA.o b4.1 b4.2.1 b4.2.2.1 hX);clear hX;go_wp2;go_roundw
      case rel=>exact⟨k+1,I,i+1,cZ,S,j,lc,ad,by go_num,ad,ad,bJ.o⟩
      case measure=>exact aH
    ·obtain rfl:k=n1:=ad;have a5:=hC.b7;have cD:=hC.b6;clear hC a0 ai af;obtain⟨a0,ai,af⟩:=a5.two;obtain⟨d0,aL,aM⟩:=cD.two;clear a5;go_wp2;generalize hX:World.setCell _ _ _=cT;obtain⟨cm,cq,cd⟩:=bA (fv op ah false IA i ic S j lc).toList (by rfl) cD bR.ext ad hX;clear hX a0 ai af d0 aL aM;obtain⟨bl,aA,aO⟩:=cm.two;refine Ln (v:=.agg (fv op ah false IA i ic S j lc)) (by simp[results,Tryz.results146,go_sem,bl]) rfl ?_;have hG:=bR.g2.c4 cd fun b O _=>ad;have fe:=cd.size;rw[KO ad] at hG;refine⟨IA,i,ic,S,j,lc,rfl,?_,cq⟩;exact ju (hG.one.sl (fun b ac av=>⟨by have:=av.1;omega,ac⟩) (fun b ac av=>⟨ad,ac⟩)) (hG.two.sl (fun b ac av=>⟨by have:=av.1;omega,ac⟩) (fun b ac av=>⟨ad,ac⟩)) hG.one.cap.1 hG.two.cap.1
section
variable {w ab aS aT b6 cN X:World} {g B:Nat} {M:List bI} {F:List aK} {l:List dL} {S:Ls} {ln lc:Nat} {n:Int} {st:Nat} {code:List az} {sites:List Int} {bx:Ls} {bJ:Nat} {bS:Ls} {bD:Nat}
theorem cK.own(h:cK w g B M F l S ln lc n st code sites bx bJ bS bD){j:Nat}{v:Value}(hX:w.setCell ⟨g,j,none⟩ v=X):
  Mv g (.slice bx code.length bJ) (.slice bS sites.length bD) w (.slice bx code.length bJ) (.slice bS sites.length bD) X∧Fr (fun b=>b=g) w X∧ld B 59 12 3 1 X bx code.length bJ (code.map eg) bS sites.length bD (sites.map D.i):=by
 have J:=cL hX;exact⟨Mv.IG (J.mono fun b O=>.inl O),J,h.rows.c4 J fun b O _=>by have:=h.base.1;omega⟩
namespace Bz
theorem AG(h:p:=by
 rw[←hX];exact aR.aM 5 _
 ):p:=h
end Bz
open Bz in
theorem cK.stmt(h:cK w g B M F l S ln lc n st code sites bx bJ bS bD)(hX:w.setCell ⟨g,5,none⟩ (.int .i64 ((st+1:Nat):Int))=X) :
  cK X g B M F l S ln lc n (st+1) code sites bx bJ bS bD∧Mv g (.slice bx code.length bJ) (.slice bS sites.length bD) w (.slice bx code.length bJ) (.slice bS sites.length bD) X:=by
 exact AF
namespace BA
theorem AG(h:p:=by
 rw[←hX];exact aR.aM 4 _
 ):p:=h
end BA
open BA in
theorem cK.locals(h:cK w g B M F l S ln lc n st code sites bx bJ bS bD){aP:Int}(hX:w.setCell ⟨g,4,none⟩ (.int .i64 aP)=X):
  cK X g B M F l S ln lc aP st code sites bx bJ bS bD∧Mv g (.slice bx code.length bJ) (.slice bS sites.length bD) w (.slice bx code.length bJ) (.slice bS sites.length bD) X:=by
 exact AF
theorem cK.DZ(h:cK w g B M F l S ln lc n st code sites bx bJ bS bD){aO:List dL}{a9:Ls}{a2 cq:Nat}(hn:a2≤1000000)(hl:Sl w (off (Ms g (.slice bx code.length bJ) (.slice bS sites.length bD)) w) a9 a2 (aO.map bZ))(hX:w.setCell ⟨g,3,none⟩ (.slice a9 a2 cq)=X):
  cK X g B M F aO a9 a2 cq n st code sites bx bJ bS bD∧Mv g (.slice bx code.length bJ) (.slice bS sites.length bD) w (.slice bx code.length bJ) (.slice bS sites.length bD) X:=by
 obtain⟨hM,J,hG⟩:=h.own hX;obtain⟨GA,gn,gc,MA,mn,mc,FA,fn,fc,aR,cv,bP,cU,H⟩:=h.blk;refine⟨⟨⟨GA,gn,gc,MA,mn,mc,FA,fn,fc,?_,cv,bP,cU.cQ hM,H.cQ hM⟩,⟨h.base.1,KX h.base.2 hM.fr.size⟩,⟨hn,hl.cQ hM⟩,hG⟩,hM⟩;rw[←hX];exact aR.aM 3 _
theorem cK.target(h:cK w g B M F l S ln lc n st code sites bx bJ bS bD)(O:b<code.length)(t:Int):∃N,bx=some ⟨N,0,none⟩∧N<w.heap.size∧w.frozen? ⟨N,b*12+1,none⟩=false∧(∃u,w.cell? ⟨N,b*12+1,none⟩=some (.int .i64 u))∧
  ∀X,w.setCell ⟨N,b*12+1,none⟩ (.int .i64 t)=X→cK X g B M F l S ln lc n st (fW code b t) sites bx bJ bS bD∧Mv g (.slice bx code.length bJ) (.slice bS sites.length bD) w (.slice bx code.length bJ) (.slice bS sites.length bD) X:=by
 obtain⟨hl,xs,ac,av⟩:=h.rows.one;obtain⟨N,bw,C,P,cm,du,L⟩:=ie ac ad;have bW:xs.length=code.length*12:=by rw[D.hb _ _ av,D.gS (z:=12) (fun d hd=>by obtain⟨x,_,rfl⟩:=Lf.1 hd;exact mw x),KK]
 have ak:b*12+1<xs.length:=by rw[bW];omega
 have bM:xs[b*12+1]?=some (xs[b*12+1]'ak):=List.getElem?_eq_getElem _;have hint:∃u,xs[b*12+1]?=some (.int .i64 u):=by
  have hm:(code.map eg)[b]?=some (eg (code[b]'O)):=by rw[List.getElem?_map,List.getElem?_eq_getElem O];rfl
  obtain⟨cs,a5,bp,bi⟩:=D.oT av (z:=12) (fun d hd=>by obtain⟨x,_,rfl⟩:=Lf.1 hd;exact mw x) hm;unfold eg at a5;rw[bK,bm] at a5;obtain⟨y,rfl,a5⟩:=a5;rw[bm] at a5;obtain⟨cG,rfl,a5⟩:=a5;exact⟨_,bi 1 _ rfl⟩
 refine⟨N,bw,P,du _,?_,fun X hX=>?_⟩
 ·obtain⟨u,hu⟩:=hint;exact⟨u,cm _ _ hu⟩
 have aC:(Value.slice bx code.length bJ).ownBlock=some N:=by rw[bw];rfl
 have J:=cL hX;have hM:Mv g (.slice bx code.length bJ) (.slice bS sites.length bD) w (.slice bx code.length bJ) (.slice bS sites.length bD) X:=Mv.IG (J.mono fun b O=>by subst O;exact .inr (.inl aC));have a:¬(Value.slice bS sites.length bD).ownBlock=some N:=h.rows.ne N aC;obtain⟨GA,gn,gc,MA,mn,mc,FA,fn,fc,aR,cv,bP,cU,H⟩:=h.blk;refine⟨⟨⟨GA,gn,gc,MA,mn,mc,FA,fn,fc,?_,cv,bP,?_,?_⟩,⟨h.base.1,KX h.base.2 hM.fr.size⟩,⟨h.names.1,?_⟩,?_⟩,hM⟩
 ·rw[cw];exact aR.on J (aD h.base.1)
 ·rw[cw];exact cU.cQ hM
 ·rw[cw];exact H.cQ hM
 ·rw[cw];exact h.names.2.cQ hM
 ·have bO:=L (b*12+1) (.int .i64 t) ad;rw[hX] at bO;rw[cw];refine⟨⟨by rw[KK,cw],_,bO,?_⟩,?_,h.rows.ne⟩
  ·refine rP t code xs b ?_ O;exact D.bV (fun b O=>⟨O.1,by have:=J.size;have:=O.2.1;omega,O.2.2⟩) _ _ (D.bU (fun b aX=>J.block b aX.2.1 fun he=>aX.2.2 (by rw[aC,he])) _ _ av)
  ·exact h.rows.two.dj J.size fun b ak hp=>J.block b ak fun he=>by
    subst he;rcases hp with hp|hp
    ·exact hp.2 aC
    ·exact a hp
end
theorem aq.cQ{w ab:World}{g:Nat}{t:TypeId}{cs:Array Value}{cv sv a f:Value}(h:aq w b t cs)(hn:¬Ms g cv sv b)(hM:Mv g cv sv w a f ab):aq ab b t cs∧¬Ms g a f b:=
 ⟨h.on hM.fr hn,fun hm=>hn (hM.own b h.lt hm)⟩
theorem pV(b:an):b.isNil=decide (b.list.length=0):=by cases b<;>simp[an.isNil,an.list]
theorem tC(b:an):(c5 b).length=b.list.length:=by rw[cF,KK]
def Dn(e:dL):List Value:=[.string e.name,.int .i64 e.kind,.int .i64 e.n]
theorem jd:ch prog 148 152 (.agg #[.string ⟨#[]⟩,.int .i64 0,.int .i64 0]) 3 32:=ch.mk' Tryz.underlying148 (by kernel_rfl) rfl ad
theorem jQ{w:World}(e:dL):(bZ e).rep w P (Dn e):=iz.2 rfl
theorem kU{w:World}(l:List dL):D.aQ w P (l.map bZ) (l.flatMap Dn):=mN jQ l
theorem tI{w:World}{P Q:Nat→Prop}:∀{l:List dL} {xs:List Value},D.aQ w P (l.map bZ) xs→D.aQ w Q (l.map bZ) xs
 | [],xs,h=>by simpa only[Le,D.aQ] using h
 | e::l,xs,h=>by
  rw[KM] at h ⊢;obtain⟨x,y,rfl,hx,bb⟩:=dE.1 h;exact dE.2 ⟨x,y,rfl,iz.2 (iz.1 hx),tI bb⟩
theorem kz{w:World}{n:Nat}{l:List dL}(h:Sl w (au w) A n (l.map bZ)):Src w 3 A n (l.flatMap Dn):=
 Src.lx (Sl.IX (f:=Dn) (sz:=3) (fun _ _ _ _ h=>iz.1 h) (fun _=>rfl) h) (fun _ _=>rfl) (fun x _ u hu=>by
  simp only[Dn,KW,List.not_mem_nil,or_false] at hu;rcases hu with rfl|rfl|rfl<;>rfl) ad
theorem ia{w aS:World}{g B:Nat}{M:List bI}{F:List aK}{l:List dL}{S:Ls}{ln lc:Nat}{n:Int}{st:Nat}{code:List az}{sites:List Int}{bx:Ls}{bJ:Nat}{bS:Ls}{bD:Nat}(h:cK w g B M F l S ln lc n st code sites bx bJ bS bD)(hd:d.rep aS (fresh w aS) cs):
  d.rep aS (JJ B g (.slice bx code.length bJ) (.slice bS sites.length bD) aS) cs:=by
 have ak:=h.lt;have C:=h.base;refine D.aL (fun b O=>⟨by have:=O.1;omega,O.2,fun hm=>?_⟩) _ _ hd;have ac:=O.1;rcases hm with hm|hm|hm
 ·omega
 ·have:=(h.rows.one.lt hm).2;omega
 ·have:=(h.rows.two.lt hm).2;omega
theorem kT{w:World}{op:Int}{g:Bool}{e:VE}{eo en:Int}{es:ByteArray}{EA:Ls}{em ec:Nat}(h:(bk e).rep w P [.int .i64 eo,.int .i64 en,.string es,.slice EA em ec]):
  (eg ⟨op,t,g,some e,j9,[],[]⟩).rep w P [.int .i64 op,.int .i64 t,.bool g,.int .i64 eo,.int .i64 en,.string es,.slice EA em ec,.bool false,.int .i64 0,.slice none 0 0,.slice none 0 0,.slice none 0 0]:=by
 unfold eg;rw[bK];exact bm.2 ⟨_,rfl,bm.2 ⟨_,rfl,fp.2 ⟨_,rfl,dE.2 ⟨[_,_,_,_],_,rfl,h,n8 (aN.2 ⟨none,0,0,_,rfl,KG _,Sl.bO _,aN.2 ⟨none,0,0,[],rfl,KG _,Sl.bO _,aP.2 rfl⟩⟩)⟩⟩⟩⟩
theorem vM{w:World}{op:Int}{g:Bool}{p:bR}{pb:Bool}{pi:Int}{PA:Ls}{pm pc:Nat}(h:(di p).rep w P [.bool pb,.int .i64 pi,.slice PA pm pc]):
  (eg ⟨op,t,g,none,p,[],[]⟩).rep w P [.int .i64 op,.int .i64 t,.bool g,.int .i64 0,.int .i64 0,.string ⟨#[]⟩,.slice none 0 0,.bool pb,.int .i64 pi,.slice PA pm pc,.slice none 0 0,.slice none 0 0]:=by
 unfold eg;rw[bK];exact bm.2 ⟨_,rfl,bm.2 ⟨_,rfl,fp.2 ⟨_,rfl,qu (dE.2 ⟨[_,_,_],_,rfl,h,aN.2 ⟨none,0,0,_,rfl,KG _,Sl.bO _,aN.2 ⟨none,0,0,[],rfl,KG _,Sl.bO _,aP.2 rfl⟩⟩⟩)⟩⟩⟩
def lC(U:ho)(nk:Int)(F:List aK)(b:an):Prop:=
 ∀(G:Env) (d:Nat) (l:List dL) (V T:Lt) (n:Int) (st:Nat) (code:List az) (sites:List Int) (g B:Nat) (S:Ls) (ln lc:Nat) (bx:Ls) (bJ:Nat) (bS:Ls) (bD:Nat) (A:Ls) (m c:Nat) (w:World),
  e4 G d V T b→Sc U G l V T n nk→uY F G l→(∀f∈F,f.params.length≤1000)→cK w g B U.af F l S ln lc n st code sites bx bJ bS bD→Sl w (off (Ms g (.slice bx code.length bJ) (.slice bS sites.length bD)) w) A m (c5 b)→
  code.length+2*b.num≤100000→sites.length=code.length→n+b.num≤100000→st+b.num≤100000→l.length+b.num≤100000→
  Calls prog 113 #[.pointer (some ⟨g,0,none⟩),.slice A m c] w fun e ab=>e=.returned (.tuple #[])∧∃Y ah al aH y,y.length=(dI b l n code).1.length∧
   cK ab g B U.af F l S ln lc (dI b l n code).2 (st+b.num) (dI b l n code).1 y Y ah al aH∧
   Mv g (.slice bx code.length bJ) (.slice bS sites.length bD) w (.slice Y (dI b l n code).1.length ah) (.slice al y.length aH) ab
theorem gJ:∀b:an,b.list.length≤b.num
 | .nil=>by simp[an.list]
 | .set _ _ _ rest=>by simp[an.list,an.num,gJ rest]
 | .call _ _ _ rest=>by simp[an.list,an.num,gJ rest]
 | .lock _ _ rest=>by simp[an.list,an.num,gJ rest]
 | .ite _ th el rest=>by simp[an.list,an.num];have:=gJ rest;omega
 | .gv _ th rest=>by simp[an.list,an.num];have:=gJ rest;omega
 | .ret rest=>by simp[an.list,an.num,gJ rest]
def fP:Code→Option Code
 | .loop c=>some c
 | .seq a b=>match fP a with
  | some c=>some c
  | none=>fP b
 | .block _ c=>fP c
 | .scope c=>fP c
 | .cond _ a b=>match fP a with
  | some c=>some c
  | none=>fP b
 | _=>none
noncomputable def sE:Code:=((Tryz.f113.body.bind fP).getD .skip)
def oi(U:ho)(nk:Int)(F:List aK)(b:an)(G:Env)(d:Nat)(l:List dL)(n:Int)(st:Nat)(code:List az)(sites:List Int)(g B:Nat)(S:Ls)(ln lc:Nat)(bx:Ls)(bJ:Nat)(bS:Ls)(bD:Nat)(A:Ls)(m c:Nat)(w:World)(bd:Value)(wr:World):Prop:=∃(k:Nat) (rest:an) (aO:List dL) (aV a4:Lt) (aP:Int) (ab:Nat) (u:List az) (y:List Int) (a9:Ls) (a2 cq:Nat) (Y:Ls) (ah:Nat) (al:Ls) (aH:Nat),bd=.int .i64 k∧k≤m∧b.list.drop k=rest.list∧dI rest aO aP u=dI b l n code∧ab+rest.num=st+b.num∧
   e4 G d aV a4 rest∧Sc U G aO aV a4 aP nk∧uY F G aO∧u.length+2*rest.num≤100000∧y.length=u.length∧aP+rest.num≤100000∧aO.length+rest.num≤100000∧cK wr g B U.af F aO a9 a2 cq aP ab u y Y ah al aH∧
   Mv g (.slice bx code.length bJ) (.slice bS sites.length bD) w (.slice Y u.length ah) (.slice al y.length aH) wr
def iQ(U:ho)(nk:Int)(F:List aK)(b:an)(G:Env)(d:Nat)(l:List dL)(n:Int)(st:Nat)(code:List az)(sites:List Int)(g B:Nat)(S:Ls)(ln lc:Nat)(bx:Ls)(bJ:Nat)(bS:Ls)(bD:Nat)(A:Ls)(m c:Nat)(w:World)(a:Act)(wr:World):Prop:=∃gK gO z u8 gL eO go gp cc bR eR eS eT eU eV eW eY eZ e3 e6 e7 e8 e9 u32 fa fb fd fe ff fh fi fk fl fm fo fp fq fr fs ft fv fw fx fy fz fA fB fC fD fE fF fG fH fI fJ u64 fK fL fM fN fO fP fQ fR fS fT fU fV fW fX fY fZ f3 f4 f5 f6 f7 f8 f9 ga gb gd ge gf gg gh gi gj gk gl gm H I am aF aL aM aN aU a1 a8 bb be bj bo br bt bA bF bG bL bM bW bZ b1 b2 b8 ca cb ce cj cn co cw cy cz cA cD cE cF cG cH cJ cM cO cP cQ cS cT cU cV cW cX cY cZ c4 c5 c6 c7 c8 c9 da db dc dd de df dg dh di dj dk dl dm dn dp dr dt du dv dw dx dy dA dB dD dE dF dG dH dJ dK dM dQ dR dS dT dV dW dX dY dZ d0 d1 d2 d3 d4 d5 d6 d7 d8 d9 ea eb ec ed ee ef eg eh ei ej ek el em en eo ep eq er es et eu ev ew ex ey ez eA eB eC eD eE eF eG eH eI eJ eL eM:Value,oi U nk F b G d l n st code sites g B S ln lc bx bJ bS bD A m c w gK wr∧a=⟨#[.pointer (some ⟨g,0,none⟩),.slice A m c,undef,undef,.slice S ln lc,gK,gO,z,u8,gL,eO,go,gp,cc,bR,.pointer (some ⟨g,0,none⟩),.pointer (some ⟨g,0,none⟩),.pointer (some ⟨g,3,none⟩),.slice S ln lc,eR,eS,eT,eU,eV,eW,eY,eZ,e3,e6,e7,e8,e9,u32,fa,fb,fd,fe,ff,fh,fi,fk,fl,fm,fo,fp,fq,fr,fs,ft,fv,fw,fx,fy,fz,fA,fB,fC,fD,fE,fF,fG,fH,fI,fJ,u64,fK,fL,fM,fN,fO,fP,fQ,fR,fS,fT,fU,fV,fW,fX,fY,fZ,f3,f4,f5,f6,f7,f8,f9,ga,gb,gd,ge,gf,gg,gh,gi,gj,gk,gl,gm,H,I,am,aF,aL,aM,aN,aU,a1,a8,bb,be,bj,bo,br,bt,bA,bF,bG,bL,bM,bW,bZ,b1,b2,b8,ca,cb,ce,cj,cn,co,cw,cy,cz,cA,cD,cE,cF,cG,cH,cJ,cM,cO,cP,cQ,cS,cT,cU,cV,cW,cX,cY,cZ,c4,c5,c6,c7,c8,c9,da,db,dc,dd,de,df,dg,dh,di,dj,dk,dl,dm,dn,dp,dr,dt,du,dv,dw,dx,dy,dA,dB,dD,dE,dF,dG,dH,dJ,dK,dM,dQ,dR,dS,dT,dV,dW,dX,dY,dZ,d0,d1,d2,d3,d4,d5,d6,d7,d8,d9,ea,eb,ec,ed,ee,ef,eg,eh,ei,ej,ek,el,em,en,eo,ep,eq,er,es,et,eu,ev,ew,ex,ey,ez,eA,eB,eC,eD,eE,eF,eG,eH,eI,eJ,eL,eM,undef,undef,undef,undef],[]⟩
def jm(m:Nat)(a:Act)(_:World):Nat:=m - (intOf (a.tmps.getD 5 undef)).toNat
def EM(U:ho)(nk:Int)(F:List aK)(b:an)(G:Env)(d:Nat)(l:List dL)(n:Int)(st:Nat)(code:List az)(sites:List Int)(g B:Nat)(S:Ls)(ln lc:Nat)(bx:Ls)(bJ:Nat)(bS:Ls)(bD:Nat)(A:Ls)(m c:Nat)(w:World)(a:Act)(wr:World):Prop:=∃gK gO z u8 gL eO go gp cc bR eR eS eT eU eV eW eY eZ e3 e6 e7 e8 e9 u32 fa fb fd fe ff fh fi fk fl fm fo fp fq fr fs ft fv fw fx fy fz fA fB fC fD fE fF fG fH fI fJ u64 fK fL fM fN fO fP fQ fR fS fT fU fV fW fX fY fZ f3 f4 f5 f6 f7 f8 f9 ga gb gd ge gf gg gh gi gj gk gl gm H I am aF aL aM aN aU a1 a8 bb be bj bo br bt bA bF bG bL bM bW bZ b1 b2 b8 ca cb ce cj cn co cw cy cz cA cD cE cF cG cH cJ cM cO cP cQ cS cT cU cV cW cX cY cZ c4 c5 c6 c7 c8 c9 da db dc dd de df dg dh di dj dk dl dm dn dp dr dt du dv dw dx dy dA dB dD dE dF dG dH dJ dK dM dQ dR dS dT dV dW dX dY dZ d0 d1 d2 d3 d4 d5 d6 d7 d8 d9 ea eb ec ed ee ef eg eh ei ej ek el em en eo ep eq er es et eu ev ew ex ey ez eA eB eC eD eE eF eG eH eI eJ eL eM:Value,oi U nk F b G d l n st code sites g B S ln lc bx bJ bS bD A m c w gK wr∧gK=.int .i64 m∧a=⟨#[.pointer (some ⟨g,0,none⟩),.slice A m c,undef,undef,.slice S ln lc,gK,gO,z,u8,gL,eO,go,gp,cc,bR,.pointer (some ⟨g,0,none⟩),.pointer (some ⟨g,0,none⟩),.pointer (some ⟨g,3,none⟩),.slice S ln lc,eR,eS,eT,eU,eV,eW,eY,eZ,e3,e6,e7,e8,e9,u32,fa,fb,fd,fe,ff,fh,fi,fk,fl,fm,fo,fp,fq,fr,fs,ft,fv,fw,fx,fy,fz,fA,fB,fC,fD,fE,fF,fG,fH,fI,fJ,u64,fK,fL,fM,fN,fO,fP,fQ,fR,fS,fT,fU,fV,fW,fX,fY,fZ,f3,f4,f5,f6,f7,f8,f9,ga,gb,gd,ge,gf,gg,gh,gi,gj,gk,gl,gm,H,I,am,aF,aL,aM,aN,aU,a1,a8,bb,be,bj,bo,br,bt,bA,bF,bG,bL,bM,bW,bZ,b1,b2,b8,ca,cb,ce,cj,cn,co,cw,cy,cz,cA,cD,cE,cF,cG,cH,cJ,cM,cO,cP,cQ,cS,cT,cU,cV,cW,cX,cY,cZ,c4,c5,c6,c7,c8,c9,da,db,dc,dd,de,df,dg,dh,di,dj,dk,dl,dm,dn,dp,dr,dt,du,dv,dw,dx,dy,dA,dB,dD,dE,dF,dG,dH,dJ,dK,dM,dQ,dR,dS,dT,dV,dW,dX,dY,dZ,d0,d1,d2,d3,d4,d5,d6,d7,d8,d9,ea,eb,ec,ed,ee,ef,eg,eh,ei,ej,ek,el,em,en,eo,ep,eq,er,es,et,eu,ev,ew,ex,ey,ez,eA,eB,eC,eD,eE,eF,eG,eH,eI,eJ,eL,eM,undef,undef,undef,undef],[]⟩
def BK(X:an):Prop:=∀(dN:va) (U:ho) (nk:Int) (F:List aK) (b:an) (G:Env) (d:Nat) (l:List dL) (n:Int) (st:Nat) (code:List az) (sites:List Int) (g B:Nat) (S:Ls) (ln lc:Nat) (bx:Ls) (bJ:Nat) (bS:Ls) (bD:Nat) (A:Ls) (m c:Nat) (w:World) (bm:Lu (Sl w (off (Ms g (.slice bx code.length bJ) (.slice bS sites.length bD)) w) A m (b.list.map bg))) (cp:Lu (∀s∈b.list,lC U nk F s.th∧lC U nk F s.el)) (dU:Lu (∀f∈F,f.params.length≤1000)) (bH:Lu (b.list.length=m)) (e0:m≤100000) (eN:st+b.num≤100000) (k:Nat) (aO:List dL) (aV a4:Lt) (aP:Int) (ab:Nat) (u:List az) (y:List Int) (a9:Ls) (a2 cq:Nat) (Y:Ls) (ah:Nat) (al:Ls) (aH:Nat) (wr:World) (ak:k<m) (ba:b.list.drop k=X.list) (aX:dI X aO aP u=dI b l n code) (aw:ab+X.num=st+b.num) (bn:e4 G d aV a4 X) (hS:Sc U G aO aV a4 aP nk) (bE:uY F G aO) (bp:u.length+2*X.num≤100000) (ch:y.length=u.length) (b9:aP+X.num≤100000) (bO:aO.length+X.num≤100000) (bw:cK wr g B U.af F aO a9 a2 cq aP ab u y Y ah al aH) (hM:Mv g (.slice bx code.length bJ) (.slice bS sites.length bD) w (.slice Y u.length ah) (.slice al y.length aH) wr)
  (dq:Exit→Act→World→Prop) (hQ0:∀c a d v w,dq (.panic c) (a.put d v) w→dq (.panic c) a w)
  {gO z u8 gL eO go gp cc bR eR eS eT eU eV eW eY eZ e3 e6 e7 e8 e9 u32 fa fb fd fe ff fh fi fk fl fm fo fp fq fr fs ft fv fw fx fy fz fA fB fC fD fE fF fG fH fI fJ u64 fK fL fM fN fO fP fQ fR fS fT fU fV fW fX fY fZ f3 f4 f5 f6 f7 f8 f9 ga gb gd ge gf gg gh gi gj gk gl gm H I am aF aL aM aN aU a1 a8 bb be bj bo br bt bA bF bG bL bM bW bZ b1 b2 b8 ca cb ce cj cn co cw cy cz cA cD cE cF cG cH cJ cM cO cP cQ cS cT cU cV cW cX cY cZ c4 c5 c6 c7 c8 c9 da db dc dd de df dg dh di dj dk dl dm dn dp dr dt du dv dw dx dy dA dB dD dE dF dG dH dJ dK dM dQ dR dS dT dV dW dX dY dZ d0 d1 d2 d3 d4 d5 d6 d7 d8 d9 ea eb ec ed ee ef eg eh ei ej ek el em en eo ep eq er es et eu ev ew ex ey ez eA eB eC eD eE eF eG eH eI eJ eL eM:Value},
  Code.wp prog sE (Exit.then (fun r j=>iQ U nk F b G d l n st code sites g B S ln lc bx bJ bS bD A m c w r j∧jm m r j<jm m ⟨#[.pointer (some ⟨g,0,none⟩),.slice A m c,undef,undef,.slice S ln lc,(.int .i64 k),gO,z,u8,gL,eO,go,gp,cc,bR,.pointer (some ⟨g,0,none⟩),.pointer (some ⟨g,0,none⟩),.pointer (some ⟨g,3,none⟩),.slice S ln lc,eR,eS,eT,eU,eV,eW,eY,eZ,e3,e6,e7,e8,e9,u32,fa,fb,fd,fe,ff,fh,fi,fk,fl,fm,fo,fp,fq,fr,fs,ft,fv,fw,fx,fy,fz,fA,fB,fC,fD,fE,fF,fG,fH,fI,fJ,u64,fK,fL,fM,fN,fO,fP,fQ,fR,fS,fT,fU,fV,fW,fX,fY,fZ,f3,f4,f5,f6,f7,f8,f9,ga,gb,gd,ge,gf,gg,gh,gi,gj,gk,gl,gm,H,I,am,aF,aL,aM,aN,aU,a1,a8,bb,be,bj,bo,br,bt,bA,bF,bG,bL,bM,bW,bZ,b1,b2,b8,ca,cb,ce,cj,cn,co,cw,cy,cz,cA,cD,cE,cF,cG,cH,cJ,cM,cO,cP,cQ,cS,cT,cU,cV,cW,cX,cY,cZ,c4,c5,c6,c7,c8,c9,da,db,dc,dd,de,df,dg,dh,di,dj,dk,dl,dm,dn,dp,dr,dt,du,dv,dw,dx,dy,dA,dB,dD,dE,dF,dG,dH,dJ,dK,dM,dQ,dR,dS,dT,dV,dW,dX,dY,dZ,d0,d1,d2,d3,d4,d5,d6,d7,d8,d9,ea,eb,ec,ed,ee,ef,eg,eh,ei,ej,ek,el,em,en,eo,ep,eq,er,es,et,eu,ev,ew,ex,ey,ez,eA,eB,eC,eD,eE,eF,eG,eH,eI,eJ,eL,eM,undef,undef,undef,undef],[]⟩ wr) dq) ⟨#[.pointer (some ⟨g,0,none⟩),.slice A m c,undef,undef,.slice S ln lc,(.int .i64 k),gO,z,u8,gL,eO,go,gp,cc,bR,.pointer (some ⟨g,0,none⟩),.pointer (some ⟨g,0,none⟩),.pointer (some ⟨g,3,none⟩),.slice S ln lc,eR,eS,eT,eU,eV,eW,eY,eZ,e3,e6,e7,e8,e9,u32,fa,fb,fd,fe,ff,fh,fi,fk,fl,fm,fo,fp,fq,fr,fs,ft,fv,fw,fx,fy,fz,fA,fB,fC,fD,fE,fF,fG,fH,fI,fJ,u64,fK,fL,fM,fN,fO,fP,fQ,fR,fS,fT,fU,fV,fW,fX,fY,fZ,f3,f4,f5,f6,f7,f8,f9,ga,gb,gd,ge,gf,gg,gh,gi,gj,gk,gl,gm,H,I,am,aF,aL,aM,aN,aU,a1,a8,bb,be,bj,bo,br,bt,bA,bF,bG,bL,bM,bW,bZ,b1,b2,b8,ca,cb,ce,cj,cn,co,cw,cy,cz,cA,cD,cE,cF,cG,cH,cJ,cM,cO,cP,cQ,cS,cT,cU,cV,cW,cX,cY,cZ,c4,c5,c6,c7,c8,c9,da,db,dc,dd,de,df,dg,dh,di,dj,dk,dl,dm,dn,dp,dr,dt,du,dv,dw,dx,dy,dA,dB,dD,dE,dF,dG,dH,dJ,dK,dM,dQ,dR,dS,dT,dV,dW,dX,dY,dZ,d0,d1,d2,d3,d4,d5,d6,d7,d8,d9,ea,eb,ec,ed,ee,ef,eg,eh,ei,ej,ek,el,em,en,eo,ep,eq,er,es,et,eu,ev,ew,ex,ey,ez,eA,eB,eC,eD,eE,eF,eG,eH,eI,eJ,eL,eM,undef,undef,undef,undef],[]⟩ wr
end Go.Proofs.YtnhhdaggkiomoaaGreat
