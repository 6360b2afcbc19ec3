/- Part 26 of the proof (LoD LoG), without conditions of its own. -/
import Derived.Test.YtjhgbdckgkppnaaGreatQ12
import Derived.Test.YtjhgbdckgkppnaaGreatQ25
namespace Go.Proofs.YtjhgbdckgkppnaaGreat
open Go.RowKit Go.Proofs.Tryz
set_option maxRecDepth 1000000
set_option maxHeartbeats 25600000
set_option linter.unusedVariables false
variable{d:D}{t:Int}{cs:List Value}{b:Nat}{P:Nat→Prop}{A:GR}{p:Prop}
def BD(w:World)(x:aC)(e:Ending)(ab:World):Prop:=
 ∃(IA:GR) (i ic:Nat) (bj:GR) (k lc:Nat),e=.returned (.agg (cO x.op x.target x.da IA i ic bj k lc))∧(dK x).rep ab (fresh w ab) (cO x.op x.target x.da IA i ic bj k lc).toList∧Ext w ab
structure hY(w wr:World)(l:List dw)(op aK:Int)(cr:Array Value)(aO:List cQ)(k:Nat)(IA:GR)(i ic:Nat)(bj:GR)(j lc:Nat):Prop where
 ext:Ext w wr
 b4:ag wr w.heap.size 175 cr
 b6:ag wr (w.heap.size+1) 60 (cO 0 0 false none 0 0 none 0 0)
 b7:ag wr (w.heap.size+2) 60 (cO op aK false IA i ic bj j lc)
 g2:jO (w.heap.size+3) 55 4 57 3 wr IA i ic ((bA l (aO.take k)).map a4) bj j lc ((b5 l (aO.take k)).map cV)
section
variable {w wr aH aQ X:World} {l:List dw} {op aK:Int} {cr:Array Value} {aO:List cQ} {k:Nat} {IA:GR} {i ic:Nat} {bj:GR} {j lc:Nat}
theorem mo{own:Nat→Prop}{g:Nat}(h:Ext w wr)(he:Ext wr aH)(aw:Fr own aH aQ)(I:∀b,own b→w.heap.size≤b)(aM:w.heap.size≤g)(ah:Fr (fun b=>b=g) aQ X):Ext w X:=by
 have e1:Fr (fun b=>w.heap.size≤b) w X:=Fr.trans (Fr.mono h fun _ h=>h.elim) (Fr.trans (Fr.mono he fun _ h=>h.elim) (Fr.trans (aw.mono I) (ah.mono fun b O=>by subst O;exact aM)));exact e1.low fun _ h=>h
theorem hY.place(h:hY w wr l op aK cr aO k IA i ic bj j lc)(he:Ext wr aH){r:d2}(aV:aO[k]?=some (.mx r)){cS:GR}{cY:Nat}
  (aM:Gr (fun b=>w.heap.size+3≤b∧(Value.slice IA i ic).ownBlock≠some b) (w.heap.size+3) 57 3 aQ cS (j+1) cY ((b5 l (aO.take k)).map cV++[cV (jq l r)]))
  (aw:Fr (fun b=>(Value.slice bj j lc).ownBlock=some b) aH aQ) (bi:c4 aH bj j lc cS (j+1) cY) (ah:aQ.setCell ⟨w.heap.size+2,11,none⟩ (.slice cS (j+1) cY)=X) :
  hY w X l op aK cr aO (k+1) IA i ic cS (j+1) cY:=by
 have bV:Fr (fun b=>b=w.heap.size+2) aQ X:=ah▸(Fr.refl (fun b=>b=w.heap.size+2) aQ).setCell (.inl rfl) _;have ao:∀b,(Value.slice bj j lc).ownBlock=some b→w.heap.size+3≤b:=fun b O=>(h.g2.two.lt O).1;refine⟨mo h.ext he aw (fun b O=>by have:=ao b O;omega) ad bV,?_,?_,?_,?_⟩
 ·exact((h.b4.al he).on aw fun O=>by have:=ao _ O;omega).on bV ad
 ·exact((h.b6.al he).on aw fun O=>by have:=ao _ O;omega).on bV ad
 ·rw[←ah];exact((h.b7.al he).on aw fun O=>by have:=ao _ O;omega).aH 11 _
 ·have e1:bA l (aO.take (k+1))=bA l (aO.take k):=by rw[bo aV,(gQ l _ _).1];simp[bA]
  have e2:(b5 l (aO.take (k+1))).map cV=(b5 l (aO.take k)).map cV++[cV (jq l r)]:=by rw[bo aV,(gQ l _ _).2];simp[b5]
  rw[e1,e2];exact(((h.g2.al he).swap.grow aM aw bi).swap).cZ bV fun b O _=>ad
theorem hY.int(h:hY w wr l op aK cr aO k IA i ic bj j lc)(he:Ext wr aH){x:VE}(aV:aO[k]?=some (.ex x)){bK:GR}{cU:Nat}
  (aM:Gr (fun b=>w.heap.size+3≤b∧(Value.slice bj j lc).ownBlock≠some b) (w.heap.size+3) 55 4 aQ bK (i+1) cU ((bA l (aO.take k)).map a4++[a4 (bt l x)]))
  (aw:Fr (fun b=>(Value.slice IA i ic).ownBlock=some b) aH aQ) (bi:c4 aH IA i ic bK (i+1) cU) (ah:aQ.setCell ⟨w.heap.size+2,10,none⟩ (.slice bK (i+1) cU)=X) :
  hY w X l op aK cr aO (k+1) bK (i+1) cU bj j lc:=by
 have bV:Fr (fun b=>b=w.heap.size+2) aQ X:=ah▸(Fr.refl (fun b=>b=w.heap.size+2) aQ).setCell (.inl rfl) _;have ao:∀b,(Value.slice IA i ic).ownBlock=some b→w.heap.size+3≤b:=fun b O=>(h.g2.one.lt O).1;refine⟨mo h.ext he aw (fun b O=>by have:=ao b O;omega) ad bV,?_,?_,?_,?_⟩
 ·exact((h.b4.al he).on aw fun O=>by have:=ao _ O;omega).on bV ad
 ·exact((h.b6.al he).on aw fun O=>by have:=ao _ O;omega).on bV ad
 ·rw[←ah];exact((h.b7.al he).on aw fun O=>by have:=ao _ O;omega).aH 10 _
 ·have e1:b5 l (aO.take (k+1))=b5 l (aO.take k):=by rw[bo aV,(gQ l _ _).2];simp[b5]
  have e2:(bA l (aO.take (k+1))).map a4=(bA l (aO.take k)).map a4++[a4 (bt l x)]:=by rw[bo aV,(gQ l _ _).1];simp[bA]
  rw[e1,e2];exact((h.g2.al he).grow aM aw bi).cZ bV fun b O _=>ad
end
theorem ld{V aH:World}{B:Nat}{az:GR}{n c L aG:Nat}(h:d.rep aH (fresh V aH) cs)(aT:B≤V.heap.size)(ac:∀b,(Value.slice A n c).ownBlock=some b→b<V.heap.size)(J:∀b,(Value.slice az L aG).ownBlock=some b→b<V.heap.size):
  d.rep aH (j2 (fun b=>B≤b∧(Value.slice az L aG).ownBlock≠some b) aH (.slice A n c)) cs:=
 D.aP (fun b O=>⟨⟨Gu aT O.1,fun hc=>by have:=J b hc;have:=O.1;omega⟩,O.2,fun hc=>by have:=ac b hc;have:=O.1;omega⟩) _ _ h
theorem qX(cp:r6)(g:Nat)(l:List dw)(M:List bF)(F:List aG)(c7:Bool)(s:ByteArray)(aO:List cQ)(v:dw)(f:aG)(aw:dh l s=some v)(ap:v.kind=3)(h0:0≤v.n)(hF:F[v.n.toNat]?=some f)(ch:ie M l f.params aO)(ir:f.params.length≤1000)
  (eo en:Int) (es:ByteArray) (EA:GR) (em ec:Nat) (rs:ByteArray) (bH:GR) (bC rc:Nat) (cC:GR) (n1 c1:Nat) (A2:GR) (bl c2:Nat) (cl:GR) (cn c3:Nat) (st:Int)
  (w:World) (ca:qO w g l) (a5:u3 w g M) (dp:v9 w g F) (hs:Sl w (au w) cC n1 (aO.map fQ)) :
  Calls prog 139 #[.pointer (some ⟨g,0,none⟩),.agg #[.int .i64 (if c7 then 4 else 3),.string s,.int .i64 eo,.int .i64 en,.string es,.slice EA em ec,.string rs,.slice bH bC rc,.slice cC n1 c1,.slice A2 bl c2,.slice cl cn c3],.int .i64 st] w
   (BD w (jj c7 v.n (bA l aO) (b5 l aO))):=by
 have hlen:=ky ch;have cN:aO.length=n1:=by rw[←hs.1,Gf]
 have bw:=ae ch;have bW:=ae aw;have di:=ae hF;have b0:=ae ca;have dr:=ae a5;have dj:=ae dp;have a8:=ae hs;obtain⟨ba,dq,cj⟩:=v;simp only at ap h0 hF;subst ap;obtain⟨aK,rfl⟩:=Gg h0;clear hs ca a5 dp ch aw hF h0;obtain⟨op,ct⟩:∃op:Int,op=if c7 then 3 else 2:=⟨_,rfl⟩
 have hx:jj c7 (aK:Int) (bA l aO) (b5 l aO)=⟨op,aK,false,none,jf,bA l aO,b5 l aO⟩:=by rw[ct];rfl
 rw[hx];clear hx;obtain⟨c9,de⟩:∃c9:Int,c9=if c7 then 4 else 3:=⟨_,rfl⟩
 have dH:(c9 == 4)=c7:=by rw[de];cases c7<;>rfl
 rw[←de];clear de;go_enter func139,ntmps139;cases c7
 ·simp only[GL,if_false] at ct;go_upto_region 4 with(fail);generalize bg:World.alloc _ _=W;have av:Ext w W:=bg▸((GN.alloc _).alloc _).alloc _;have b1:ag W w.heap.size 175 #[.int .i64 c9,.string s,.int .i64 eo,.int .i64 en,.string es,.slice EA em ec,.string rs,.slice bH bC rc,.slice cC n1 c1,.slice A2 bl c2,.slice cl cn c3]:=bg▸((GO).alloc _).alloc _;have cq:ag W (w.heap.size+1) 60 (cO 0 0 false none 0 0 none 0 0):=bg▸(ag.bR _ _ _ (by simp)).alloc _;have aX:ag W (w.heap.size+2) 60 (cO op 0 false none 0 0 none 0 0):=by rw[←bg,ct];exact ag.bR _ _ _ (by simp)
  clear bg ct;have bh:=ae av;have b7:=ae b1;have N:=ae cq;have cT:=ae aX;obtain⟨aM,bj,ln,lc,bJ,cD,ck⟩:=b0.on av;have b8:=ae ck;obtain⟨a0,al,af⟩:=b1.two;clear av b1 cq aX ck;refine o2 (fun _=>False) [6,11] (.free 0 (.free 1 (.free 2 (.held 3 (.free 4 (.held 5 (.pick [6,10] (fun i=>bif i == 6 then .free 7 (.free 8 (.free 9 (.pick [10] (fun _=>.pick [11] (fun _=>.free 12 (.stop)))))) else .pick [6] (fun _=>.free 7 (.free 8 (.free 9 (.pick [11] (fun _=>.free 12 (.stop)))))))))))))) ?_
  iterate 3 refine tf ?_
  refine th ?_;refine tf ?_;refine th ?_;refine iL (P:=?dn) (ops:=?dS) (Q:=?co) (R:=?fg) (tails:=?dc) (rest:=.pick [11] (fun _=>.free 12 (.stop))) (aa:=?dt) (C:=fun cG V=>Ext W V∧ag V cG 149 #[.string ⟨#[]⟩,.int .i64 0,.int .i64 0]∧W.heap.size≤cG) (fun key=>?cg) ?c5
  case cg=>
   refine aR ?_ ?_
   ·
    refine aY rfl (fun K hK=>?_) rfl;go_simp;refine(c8 bj ln lc l s W.drew (b8.on (Fr.ext GN.drew)) bJ).mono ?_;rintro e aH ⟨rfl,ar⟩;rw[bW.o];simp only[gM,mS];refine hK _ _ ?_;clear hK K
    try simp only[PU]
    iterate 3 refine tf ?_
    refine ak ?_;refine dU ?_;generalize hV:World.alloc _ _=V;have aT:ag V aH.heap.size 149 #[.string ⟨#[]⟩,.int .i64 0,.int .i64 0]:=hV▸GO;have S:Ext W V:=hV▸(Fr.aE ar).alloc _;have hle:=(Fr.aE ar).size;clear hV ar;generalize aH.heap.size=cG at *;exact key cG V ⟨S,aT,hle⟩
   ·
    refine dU ?_;refine ak ?_;refine aY rfl (fun K hK=>?_) rfl;go_simp;generalize hV:World.alloc _ _=V;have aT:ag V W.heap.size 149 #[.string ⟨#[]⟩,.int .i64 0,.int .i64 0]:=hV▸GO;have S:Ext W V:=hV▸GN.alloc _;clear hV;refine(c8 bj ln lc l s V.drew (b8.on (Fr.ext S.drew)) bJ).mono ?_;rintro e aH ⟨rfl,ar⟩;rw[bW.o];simp only[gM,mS];refine hK _ _ ?_;clear hK K
    try simp only[PU]
    iterate 3 refine tf ?_
    have cw:=aT.al (Fr.aE ar);have aI:=S.trans (Fr.aE ar);clear aT S ar;exact key W.heap.size aH ⟨aI,cw,Gb _⟩
  case c5=>
   rintro cG V ⟨S,bP,a3⟩;have cH:=cT.lt;obtain⟨a7,am,aE⟩:=bP.two;clear a0 al af cD;refine ak ?_;refine aY rfl (fun K hK=>?_) rfl;go_simp;refine hK _ _ ?_;clear hK K
   try simp only[PU]
   refine tf ?_;refine bU ?_;generalize ah:World.setCell _ _ _=X;obtain⟨bz,br,_⟩:=mq bP S a3 ah;have aW:=ae (bh.trans br);have I:=ae (b7.al br);have G:=ae (N.al br);have m:=cT.al br;have bI:=ae m;clear ah a7 am aE bP S br;obtain⟨a7,am,aE⟩:=bz.two;obtain⟨a0,al,af⟩:=m.two;clear m;go_upto_region 12 with(fail);generalize cb:World.setCell _ _ _=Y;have cR:=G.lt;have bb:Fr (fun b=>b=w.heap.size+2) X Y:=cb▸(Fr.refl (fun b=>b=w.heap.size+2) X).setCell (.inl rfl) _;have aB:ag Y (w.heap.size+2) 60 (cO op aK false none 0 0 none 0 0):=cb▸bI.aH 1 _;have ay:Ext w Y:=(Fr.trans (aW.mono fun _ h=>h.elim) bb).low (fun b hm=>ad);have y:=I.on bb ad;have ai:=G.on bb ad;have b6:=ae ay;have bf:=ae y;have bk:=ae ai;have cy:=ae aB;have bM:=bz.on bb ad;obtain⟨cc,FA,fn,fc,cW,cv,bp⟩:=dj.o;have cF:F[aK]?=some f:=by have:=di.o;simpa using this
   have bG:aK<fn:=by have ac:=(List.getElem?_eq_some_iff.1 cF).1;have J:=bp.1;rw[Gf] at J;omega
   obtain⟨bY,cI,cz,cs,rfl,ci,z,bL,cK,aC⟩:=bp.fJ jV bG;rw[cF] at z;injection z with z;subst z;obtain⟨PA,pn,pc,f4,bn,bc,rfl,cX,cP,bi,_⟩:=iy.1 bL;replace cv:=(ay.cell cc (fun h=>h)).trans cv
   have da:=(ay.cell ci (fun h=>h)).trans (aC 1 _ rfl);have bN:=ay.size;have cB:bY<Y.heap.size:=Gc ci bN;have dd:g<Y.heap.size:=Gc cc bN;have gm:f.params.length=pn:=by rw[←bi.1,Gf]
   have gl:=ae bi;obtain⟨a7,am,aE⟩:=bM.two;obtain⟨a0,al,af⟩:=y.two;obtain rfl:n1=pn:=ad;have bs:=ae (show hY w Y l op aK #[.int .i64 c9,.string s,.int .i64 eo,.int .i64 en,.string es,.slice EA em ec,.string rs,.slice bH bC rc,.slice cC n1 c1,.slice A2 bl c2,.slice cl cn c3] aO 0 none 0 0 none 0 0 from
    ⟨ay,y,ai,aB,jO.nil _ _ _ _ _ _⟩)
   clear cb bb ay ai aB bz bp bL cK aC bi ci aW I G bI a3 y bM b6 bf bk cy;go_wp2;refine eh (fun _=>False) [(0,3),(1,3),(2,3),(3,3),(4,0),(5,3),(6,0),(7,3),(8,3),(9,0),(10,3)] ?_
   iterate 4 refine pf ?_
   refine ph ?_;refine pf ?_;refine ph ?_
   iterate 2 refine pf ?_
   refine ph ?_;refine pf ?_;refine aD ?_;clear a7 am aE cv da cB;go_wp2;clear a0 al af;go_loopw [11] (fun E wr=>∃(k:Nat) (IA:GR) (i ic:Nat) (bj:GR) (j lc:Nat),k≤n1∧E=.int .i64 k∧i≤k∧j≤k∧hY w wr l op aK #[.int .i64 c9,.string s,.int .i64 eo,.int .i64 en,.string es,.slice EA em ec,.string rs,.slice bH bC rc,.slice cC n1 c1,.slice A2 bl c2,.slice cl cn c3] aO k IA i ic bj j lc) (fun E _=>n1 - (intOf E).toNat)
   case atStart=>exact⟨0,none,0,0,none,0,0,ad,rfl,Gb _,Gb _,⟨bs.ext.drew,bs.b4,bs.b6,bs.b7,bs.g2.al GN.drew⟩⟩
   case round=>
    obtain⟨k,IA,i,ic,bj,j,lc,ap,rfl,cL,u,hC⟩:=hrel;clear bs;have bs:=ae hC;obtain⟨a0,al,af⟩:=hC.b4.two;by_cases ao:k<n1
    ·obtain⟨ab,dB,a,cs,rfl,a9,aV,T,a1,Z⟩:=(a8.on (Fr.ext hC.ext)).fJ mZ ao;obtain⟨eN,gO,q,dv,rfl,eL,bu,bq,bV,gI⟩:=(gl.on (Fr.ext hC.ext)).fJ lV ao;obtain rfl:=jA.1 bq;have a2:=gI 1 _ rfl;have bS:eN<wr.heap.size:=eL;have bT:ab<wr.heap.size:=a9;have HA:=ae aV;rcases jR bw.o bu aV with⟨r,rfl,bv,aU⟩|⟨x,rfl,bv,cZ⟩
     ·rw[bv] at a2;obtain⟨cm,dm,c6,c4,bQ,zc,rfl,H⟩:=q0 T;have c0:=Z 0 _ rfl;have cJ:=Z 1 _ rfl;have fE:=Z 2 _ rfl;have aj:=Z 3 _ rfl;have bX:=Z 4 _ rfl;have bZ:=Z 5 _ rfl;have cf:=Z 6 _ rfl;simp only[Gl] at c0;have U:=ae H;clear hC a1 Z bq bV gI eL a9 T aV bu H;go_upto_region 20 with(fail);generalize hV:World.alloc _ _=V;have t:Ext wr V:=hV▸GN.alloc _;have o:ag V wr.heap.size 209 #[.bool true,.string cm,.slice dm c6 c4,.int .i64 0,.int .i64 0,.string ⟨#[]⟩,.slice bQ 0 zc]:=hV▸GO;have aX:=bs.b7.al t;replace a2:=((Fr.oK t).1 eN _ bS).trans a2
      replace bS:eN<V.heap.size:=Gc bS t.size
      have b9:=bs.b7.lt;have df:=t.size;clear hV a0 al af c0 cJ fE aj bX bZ cf bT;obtain⟨a6,aL,aP⟩:=o.two;obtain⟨a0,al,af⟩:=aX.two;clear aX o;go_wp2;refine eh (fun _=>False) [(0,3),(1,0),(2,3),(3,3),(4,3),(5,3),(6,0),(7,3)] ?_;refine pf ?_;refine ph ?_
      iterate 4 refine pf ?_
      refine ph ?_;refine pf ?_;refine aD ?_;clear a2 bS;go_wp2;refine eh (fun _=>False) [(0,3),(1,0),(2,3),(3,3),(4,0),(5,3),(6,1),(7,1),(8,2),(9,3),(10,2)] ?_;refine pf ?_;refine bm (v:=?_) rfl (by rfl) (fun V hV=>?_) ?_;rotate_left
      ·obtain⟨hVc,hVf⟩:=Fr.fC hV
       (go_simp<;>with_reducible rfl)
      try simp only[PU]
      iterate 2 refine pf ?_
      refine bm (v:=?_) rfl (by rfl) (fun V hV=>?_) ?_;rotate_left
      ·obtain⟨hVc,hVf⟩:=Fr.fC hV
       (go_simp<;>with_reducible rfl)
      try simp only[PU]
      refine pf ?_;refine aA rfl (fun K hK=>?_);go_simp;refine(cp g l M r aU st cm dm c6 c4 _ (b0.on (bs.ext.trans t).drew.drew) (dr.on (bs.ext.trans t).drew.drew) (D.on U.o (Fr.ext t.drew.drew))).mono ?_;rintro e aH ⟨ds,du,b4,b2,cu,rfl,bo,ar⟩;refine hK _ _ (ar) ?_;clear hK K
      try simp only[PU]
      have aI:Ext V aH:=Fr.aE (Fr.aE ar);have n:(cV (jq l r)).rep aH (fresh V aH) [.bool ds,.int .i64 du,.slice b4 b2 cu]:=bo;have S:=t.trans aI;have aZ:=aI.size;have L:∀b,(Value.slice IA i ic).ownBlock=some b→b<V.heap.size:=fun b O=>by have:=(bs.g2.one.lt O).2;omega
      have aF:∀b,(Value.slice bj j lc).ownBlock=some b→b<V.heap.size:=fun b O=>by have:=(bs.g2.two.lt O).2;omega
      refine uQ ?_;refine ax rfl (fun K hK=>?_);rw[if_pos (by rfl)];refine lI zZ (.tmp 92) (.tmp 98) (by rfl) (bs.g2.al S).two (ld n ad aF L) (by rfl) (by rfl) (by rfl) ad ad ad ?_;intro cS cY aQ an aq b3 ce;have m:=(bs.b7.al S).on aq (fun O=>by have:=(bs.g2.two.lt O).1;omega);have bB:=bO an aq b3 S;clear an aq b3 bo n ar aI S t a0 al af a6 aL aP L aF aZ;obtain⟨a0,al,af⟩:=m.two;clear m;refine hK _ _ ?_;clear hK K
      try simp only[PU]
      refine pf ?_;refine ax rfl (fun K hK=>?_);go_simp;refine hK _ _ ?_;clear hK K
      try simp only[PU]
      refine aD ?_;clear a0 al af;generalize ah:World.setCell aQ _ _=bE;have az:=ae (bs.place bB.2.2.2 HA.o bB.1 bB.2.1 bB.2.2.1 ah);clear ah;go_wp2;go_roundw
      case rel=>exact⟨k+1,IA,i,ic,cS,j+1,cY,ad,by go_num,ad,ad,az.o⟩
      case measure=>simp[intOf];omega
     ·rw[bv] at a2;obtain⟨bQ,aJ,zc,dy,b2,xs,b4,dx,cu,rfl,H⟩:=qZ T;have c0:=Z 0 _ rfl;have cJ:=Z 1 _ rfl;have fE:=Z 2 _ rfl;have aj:=Z 3 _ rfl;have bX:=Z 4 _ rfl;have bZ:=Z 5 _ rfl;have cf:=Z 6 _ rfl;simp only[Gl] at c0;have U:=ae H;clear hC a1 Z bq bV gI eL a9 T aV bu H;go_upto_region 20 with(fail);generalize hV:World.alloc _ _=V;have t:Ext wr V:=hV▸GN.alloc _;have o:ag V wr.heap.size 209 #[.bool false,.string ⟨#[]⟩,.slice bQ aJ zc,.int .i64 dy,.int .i64 b2,.string xs,.slice b4 dx cu]:=hV▸GO;have aX:=bs.b7.al t;replace a2:=((Fr.oK t).1 eN _ bS).trans a2
      replace bS:eN<V.heap.size:=Gc bS t.size
      have b9:=bs.b7.lt;have df:=t.size;clear hV a0 al af c0 cJ fE aj bX bZ cf bT;obtain⟨a6,aL,aP⟩:=o.two;obtain⟨a0,al,af⟩:=aX.two;clear aX o;go_wp2;refine eh (fun _=>False) [(0,3),(1,0),(2,3),(3,3),(4,3),(5,3),(6,0),(7,3)] ?_;refine pf ?_;refine ph ?_
      iterate 4 refine pf ?_
      refine ph ?_;refine pf ?_;refine aD ?_;clear a2 bS;go_wp2;refine eh (fun _=>False) [(0,3),(1,0),(2,3),(3,3),(4,0),(5,3),(6,1),(7,1),(8,2),(9,3),(10,2)] ?_;refine pf ?_;refine bm (v:=?_) rfl (by rfl) (fun V hV=>?_) ?_;rotate_left
      ·obtain⟨hVc,hVf⟩:=Fr.fC hV
       (go_simp<;>with_reducible rfl)
      try simp only[PU]
      iterate 2 refine pf ?_
      refine bm (v:=?_) rfl (by rfl) (fun V hV=>?_) ?_;rotate_left
      ·obtain⟨hVc,hVf⟩:=Fr.fC hV
       (go_simp<;>with_reducible rfl)
      try simp only[PU]
      refine pf ?_;refine aA rfl (fun K hK=>?_);go_simp;refine(fp l x cZ g st _ _ _ _ _ _ _ (b0.on (bs.ext.trans t).drew.drew) (D.on U.o (Fr.ext t.drew.drew))).mono ?_;rintro e aH ⟨dz,cM,cd,aS,dl,cE,rfl,bo,ar⟩;refine hK _ _ (ar) ?_;clear hK K
      try simp only[PU]
      have aI:Ext V aH:=Fr.aE (Fr.aE ar);have n:(a4 (bt l x)).rep aH (fresh V aH) [.int .i64 dz,.int .i64 cM,.string cd,.slice aS dl cE]:=bo;have S:=t.trans aI;have aZ:=aI.size;have L:∀b,(Value.slice IA i ic).ownBlock=some b→b<V.heap.size:=fun b O=>by have:=(bs.g2.one.lt O).2;omega
      have aF:∀b,(Value.slice bj j lc).ownBlock=some b→b<V.heap.size:=fun b O=>by have:=(bs.g2.two.lt O).2;omega
      refine uQ ?_;refine ax rfl (fun K hK=>?_);rw[if_pos (by rfl)];refine lI lQ (.tmp 102) (.tmp 108) (by rfl) (bs.g2.al S).one (ld n ad L aF) (by rfl) (by rfl) (by rfl) ad ad ad ?_;intro bK cU aQ an aq b3 ce;have m:=(bs.b7.al S).on aq (fun O=>by have:=(bs.g2.one.lt O).1;omega);have bB:=bO an aq b3 S;clear an aq b3 bo n ar aI S t a0 al af a6 aL aP L aF aZ;obtain⟨a0,al,af⟩:=m.two;clear m;refine hK _ _ ?_;clear hK K
      try simp only[PU]
      refine pf ?_;refine ax rfl (fun K hK=>?_);go_simp;refine hK _ _ ?_;clear hK K
      try simp only[PU]
      refine aD ?_;clear a0 al af;generalize ah:World.setCell aQ _ _=bE;have az:=ae (bs.int bB.2.2.2 HA.o bB.1 bB.2.1 bB.2.2.1 ah);clear ah;go_wp2;go_roundw
      case rel=>exact⟨k+1,bK,i+1,cU,bj,j,lc,ad,by go_num,ad,ad,az.o⟩
      case measure=>simp[intOf];omega
    ·obtain rfl:k=n1:=ad;have aX:=hC.b7;have cq:=hC.b6;clear hC a0 al af;obtain⟨a0,al,af⟩:=aX.two;obtain⟨a6,aL,aP⟩:=cq.two;clear aX;go_wp2;generalize ah:World.setCell _ _ _=bE;obtain⟨bD,aN,cA⟩:=cx (cO op aK false IA i ic bj j lc).toList (by rfl) cq bs.ext ad ah;clear ah a0 al af a6 aL aP;obtain⟨bx,bd,be⟩:=bD.two;refine GM (v:=.agg (cO op aK false IA i ic bj j lc)) (by simp[results,Tryz.results139,go_sem,bx]) rfl ?_;have bR:=bs.g2.cZ cA fun b O _=>ad;have dk:=cA.size;rw[Gj ad] at bR;refine⟨IA,i,ic,bj,j,lc,rfl,?_,aN⟩;exact g0 (bR.one.sl (fun b ac J=>⟨by have:=J.1;omega,ac⟩) (fun b ac J=>⟨ad,ac⟩)) (bR.two.sl (fun b ac J=>⟨by have:=J.1;omega,ac⟩) (fun b ac J=>⟨ad,ac⟩)) bR.one.cap.1 bR.two.cap.1
 ·simp only[if_true] at ct;go_upto_region 4 with(fail);generalize bg:World.alloc _ _=W;have av:Ext w W:=bg▸((GN.alloc _).alloc _).alloc _;have b1:ag W w.heap.size 175 #[.int .i64 c9,.string s,.int .i64 eo,.int .i64 en,.string es,.slice EA em ec,.string rs,.slice bH bC rc,.slice cC n1 c1,.slice A2 bl c2,.slice cl cn c3]:=bg▸((GO).alloc _).alloc _;have cq:ag W (w.heap.size+1) 60 (cO 0 0 false none 0 0 none 0 0):=bg▸(ag.bR _ _ _ (by simp)).alloc _;have aX:ag W (w.heap.size+2) 60 (cO op 0 false none 0 0 none 0 0):=by rw[←bg,ct];exact ag.bR _ _ _ (by simp)
  clear bg ct;have bh:=ae av;have b7:=ae b1;have N:=ae cq;have cT:=ae aX;obtain⟨aM,bj,ln,lc,bJ,cD,ck⟩:=b0.on av;have b8:=ae ck;obtain⟨a0,al,af⟩:=b1.two;clear av b1 cq aX ck;refine o2 (fun _=>False) [6,11] (.free 0 (.free 1 (.free 2 (.held 3 (.free 4 (.held 5 (.pick [6,10] (fun i=>bif i == 6 then .free 7 (.free 8 (.free 9 (.pick [10] (fun _=>.pick [11] (fun _=>.free 12 (.stop)))))) else .pick [6] (fun _=>.free 7 (.free 8 (.free 9 (.pick [11] (fun _=>.free 12 (.stop)))))))))))))) ?_
  iterate 3 refine tf ?_
  refine th ?_;refine tf ?_;refine th ?_;refine iL (P:=?dC) (ops:=?dD) (Q:=?dE) (R:=?dF) (tails:=?dG) (rest:=.pick [11] (fun _=>.free 12 (.stop))) (aa:=?dA) (C:=fun cG V=>Ext W V∧ag V cG 149 #[.string ⟨#[]⟩,.int .i64 0,.int .i64 0]∧W.heap.size≤cG) (fun key=>?db) ?dg
  case db=>
   refine aR ?_ ?_
   ·
    refine aY rfl (fun K hK=>?_) rfl;go_simp;refine(c8 bj ln lc l s W.drew (b8.on (Fr.ext GN.drew)) bJ).mono ?_;rintro e aH ⟨rfl,ar⟩;rw[bW.o];simp only[gM,mS];refine hK _ _ ?_;clear hK K
    try simp only[PU]
    iterate 3 refine tf ?_
    refine ak ?_;refine dU ?_;generalize hV:World.alloc _ _=V;have aT:ag V aH.heap.size 149 #[.string ⟨#[]⟩,.int .i64 0,.int .i64 0]:=hV▸GO;have S:Ext W V:=hV▸(Fr.aE ar).alloc _;have hle:=(Fr.aE ar).size;clear hV ar;generalize aH.heap.size=cG at *;exact key cG V ⟨S,aT,hle⟩
   ·
    refine dU ?_;refine ak ?_;refine aY rfl (fun K hK=>?_) rfl;go_simp;generalize hV:World.alloc _ _=V;have aT:ag V W.heap.size 149 #[.string ⟨#[]⟩,.int .i64 0,.int .i64 0]:=hV▸GO;have S:Ext W V:=hV▸GN.alloc _;clear hV;refine(c8 bj ln lc l s V.drew (b8.on (Fr.ext S.drew)) bJ).mono ?_;rintro e aH ⟨rfl,ar⟩;rw[bW.o];simp only[gM,mS];refine hK _ _ ?_;clear hK K
    try simp only[PU]
    iterate 3 refine tf ?_
    have cw:=aT.al (Fr.aE ar);have aI:=S.trans (Fr.aE ar);clear aT S ar;exact key W.heap.size aH ⟨aI,cw,Gb _⟩
  case dg=>
   rintro cG V ⟨S,bP,a3⟩;have cH:=cT.lt;obtain⟨a7,am,aE⟩:=bP.two;clear a0 al af cD;refine ak ?_;refine aY rfl (fun K hK=>?_) rfl;go_simp;refine hK _ _ ?_;clear hK K
   try simp only[PU]
   refine tf ?_;refine bU ?_;generalize ah:World.setCell _ _ _=X;obtain⟨bz,br,_⟩:=mq bP S a3 ah;have aW:=ae (bh.trans br);have I:=ae (b7.al br);have G:=ae (N.al br);have m:=cT.al br;have bI:=ae m;clear ah a7 am aE bP S br;obtain⟨a7,am,aE⟩:=bz.two;obtain⟨a0,al,af⟩:=m.two;clear m;go_upto_region 12 with(fail);generalize cb:World.setCell _ _ _=Y;have cR:=G.lt;have bb:Fr (fun b=>b=w.heap.size+2) X Y:=cb▸(Fr.refl (fun b=>b=w.heap.size+2) X).setCell (.inl rfl) _;have aB:ag Y (w.heap.size+2) 60 (cO op aK false none 0 0 none 0 0):=cb▸bI.aH 1 _;have ay:Ext w Y:=(Fr.trans (aW.mono fun _ h=>h.elim) bb).low (fun b hm=>ad);have y:=I.on bb ad;have ai:=G.on bb ad;have b6:=ae ay;have bf:=ae y;have bk:=ae ai;have cy:=ae aB;have bM:=bz.on bb ad;obtain⟨cc,FA,fn,fc,cW,cv,bp⟩:=dj.o;have cF:F[aK]?=some f:=by have:=di.o;simpa using this
   have bG:aK<fn:=by have ac:=(List.getElem?_eq_some_iff.1 cF).1;have J:=bp.1;rw[Gf] at J;omega
   obtain⟨bY,cI,cz,cs,rfl,ci,z,bL,cK,aC⟩:=bp.fJ jV bG;rw[cF] at z;injection z with z;subst z;obtain⟨PA,pn,pc,f4,bn,bc,rfl,cX,cP,bi,_⟩:=iy.1 bL;replace cv:=(ay.cell cc (fun h=>h)).trans cv
   have da:=(ay.cell ci (fun h=>h)).trans (aC 1 _ rfl);have bN:=ay.size;have cB:bY<Y.heap.size:=Gc ci bN;have dd:g<Y.heap.size:=Gc cc bN;have gm:f.params.length=pn:=by rw[←bi.1,Gf]
   have gl:=ae bi;obtain⟨a7,am,aE⟩:=bM.two;obtain⟨a0,al,af⟩:=y.two;obtain rfl:n1=pn:=ad;have bs:=ae (show hY w Y l op aK #[.int .i64 c9,.string s,.int .i64 eo,.int .i64 en,.string es,.slice EA em ec,.string rs,.slice bH bC rc,.slice cC n1 c1,.slice A2 bl c2,.slice cl cn c3] aO 0 none 0 0 none 0 0 from
    ⟨ay,y,ai,aB,jO.nil _ _ _ _ _ _⟩)
   clear cb bb ay ai aB bz bp bL cK aC bi ci aW I G bI a3 y bM b6 bf bk cy;go_wp2;refine eh (fun _=>False) [(0,3),(1,3),(2,3),(3,3),(4,0),(5,3),(6,0),(7,3),(8,3),(9,0),(10,3)] ?_
   iterate 4 refine pf ?_
   refine ph ?_;refine pf ?_;refine ph ?_
   iterate 2 refine pf ?_
   refine ph ?_;refine pf ?_;refine aD ?_;clear a7 am aE cv da cB;go_wp2;clear a0 al af;go_loopw [11] (fun E wr=>∃(k:Nat) (IA:GR) (i ic:Nat) (bj:GR) (j lc:Nat),k≤n1∧E=.int .i64 k∧i≤k∧j≤k∧hY w wr l op aK #[.int .i64 c9,.string s,.int .i64 eo,.int .i64 en,.string es,.slice EA em ec,.string rs,.slice bH bC rc,.slice cC n1 c1,.slice A2 bl c2,.slice cl cn c3] aO k IA i ic bj j lc) (fun E _=>n1 - (intOf E).toNat)
   case atStart=>exact⟨0,none,0,0,none,0,0,ad,rfl,Gb _,Gb _,⟨bs.ext.drew,bs.b4,bs.b6,bs.b7,bs.g2.al GN.drew⟩⟩
   case round=>
    obtain⟨k,IA,i,ic,bj,j,lc,ap,rfl,cL,u,hC⟩:=hrel;clear bs;have bs:=ae hC;obtain⟨a0,al,af⟩:=hC.b4.two;by_cases ao:k<n1
    ·obtain⟨ab,dB,a,cs,rfl,a9,aV,T,a1,Z⟩:=(a8.on (Fr.ext hC.ext)).fJ mZ ao;obtain⟨eN,gO,q,dv,rfl,eL,bu,bq,bV,gI⟩:=(gl.on (Fr.ext hC.ext)).fJ lV ao;obtain rfl:=jA.1 bq;have a2:=gI 1 _ rfl;have bS:eN<wr.heap.size:=eL;have bT:ab<wr.heap.size:=a9;have HA:=ae aV;rcases jR bw.o bu aV with⟨r,rfl,bv,aU⟩|⟨x,rfl,bv,cZ⟩
     ·rw[bv] at a2;obtain⟨cm,dm,c6,c4,bQ,zc,rfl,H⟩:=q0 T;have c0:=Z 0 _ rfl;have cJ:=Z 1 _ rfl;have fE:=Z 2 _ rfl;have aj:=Z 3 _ rfl;have bX:=Z 4 _ rfl;have bZ:=Z 5 _ rfl;have cf:=Z 6 _ rfl;simp only[Gl] at c0;have U:=ae H;clear hC a1 Z bq bV gI eL a9 T aV bu H;go_upto_region 20 with(fail);generalize hV:World.alloc _ _=V;have t:Ext wr V:=hV▸GN.alloc _;have o:ag V wr.heap.size 209 #[.bool true,.string cm,.slice dm c6 c4,.int .i64 0,.int .i64 0,.string ⟨#[]⟩,.slice bQ 0 zc]:=hV▸GO;have aX:=bs.b7.al t;replace a2:=((Fr.oK t).1 eN _ bS).trans a2
      replace bS:eN<V.heap.size:=Gc bS t.size
      have b9:=bs.b7.lt;have df:=t.size;clear hV a0 al af c0 cJ fE aj bX bZ cf bT;obtain⟨a6,aL,aP⟩:=o.two;obtain⟨a0,al,af⟩:=aX.two;clear aX o;go_wp2;refine eh (fun _=>False) [(0,3),(1,0),(2,3),(3,3),(4,3),(5,3),(6,0),(7,3)] ?_;refine pf ?_;refine ph ?_
      iterate 4 refine pf ?_
      refine ph ?_;refine pf ?_;refine aD ?_;clear a2 bS;go_wp2;refine eh (fun _=>False) [(0,3),(1,0),(2,3),(3,3),(4,0),(5,3),(6,1),(7,1),(8,2),(9,3),(10,2)] ?_;refine pf ?_;refine bm (v:=?_) rfl (by rfl) (fun V hV=>?_) ?_;rotate_left
      ·obtain⟨hVc,hVf⟩:=Fr.fC hV
       (go_simp<;>with_reducible rfl)
      try simp only[PU]
      iterate 2 refine pf ?_
      refine bm (v:=?_) rfl (by rfl) (fun V hV=>?_) ?_;rotate_left
      ·obtain⟨hVc,hVf⟩:=Fr.fC hV
       (go_simp<;>with_reducible rfl)
      try simp only[PU]
      refine pf ?_;refine aA rfl (fun K hK=>?_);go_simp;refine(cp g l M r aU st cm dm c6 c4 _ (b0.on (bs.ext.trans t).drew.drew) (dr.on (bs.ext.trans t).drew.drew) (D.on U.o (Fr.ext t.drew.drew))).mono ?_;rintro e aH ⟨ds,du,b4,b2,cu,rfl,bo,ar⟩;refine hK _ _ (ar) ?_;clear hK K
      try simp only[PU]
      have aI:Ext V aH:=Fr.aE (Fr.aE ar);have n:(cV (jq l r)).rep aH (fresh V aH) [.bool ds,.int .i64 du,.slice b4 b2 cu]:=bo;have S:=t.trans aI;have aZ:=aI.size;have L:∀b,(Value.slice IA i ic).ownBlock=some b→b<V.heap.size:=fun b O=>by have:=(bs.g2.one.lt O).2;omega
      have aF:∀b,(Value.slice bj j lc).ownBlock=some b→b<V.heap.size:=fun b O=>by have:=(bs.g2.two.lt O).2;omega
      refine uQ ?_;refine ax rfl (fun K hK=>?_);rw[if_pos (by rfl)];refine lI zZ (.tmp 92) (.tmp 98) (by rfl) (bs.g2.al S).two (ld n ad aF L) (by rfl) (by rfl) (by rfl) ad ad ad ?_;intro cS cY aQ an aq b3 ce;have m:=(bs.b7.al S).on aq (fun O=>by have:=(bs.g2.two.lt O).1;omega);have bB:=bO an aq b3 S;clear an aq b3 bo n ar aI S t a0 al af a6 aL aP L aF aZ;obtain⟨a0,al,af⟩:=m.two;clear m;refine hK _ _ ?_;clear hK K
      try simp only[PU]
      refine pf ?_;refine ax rfl (fun K hK=>?_);go_simp;refine hK _ _ ?_;clear hK K
      try simp only[PU]
      refine aD ?_;clear a0 al af;generalize ah:World.setCell aQ _ _=bE;have az:=ae (bs.place bB.2.2.2 HA.o bB.1 bB.2.1 bB.2.2.1 ah);clear ah;go_wp2;go_roundw
      case rel=>exact⟨k+1,IA,i,ic,cS,j+1,cY,ad,by go_num,ad,ad,az.o⟩
      case measure=>simp[intOf];omega
     ·rw[bv] at a2;obtain⟨bQ,aJ,zc,dy,b2,xs,b4,dx,cu,rfl,H⟩:=qZ T;have c0:=Z 0 _ rfl;have cJ:=Z 1 _ rfl;have fE:=Z 2 _ rfl;have aj:=Z 3 _ rfl;have bX:=Z 4 _ rfl;have bZ:=Z 5 _ rfl;have cf:=Z 6 _ rfl;simp only[Gl] at c0;have U:=ae H;clear hC a1 Z bq bV gI eL a9 T aV bu H;go_upto_region 20 with(fail);generalize hV:World.alloc _ _=V;have t:Ext wr V:=hV▸GN.alloc _;have o:ag V wr.heap.size 209 #[.bool false,.string ⟨#[]⟩,.slice bQ aJ zc,.int .i64 dy,.int .i64 b2,.string xs,.slice b4 dx cu]:=hV▸GO;have aX:=bs.b7.al t;replace a2:=((Fr.oK t).1 eN _ bS).trans a2
      replace bS:eN<V.heap.size:=Gc bS t.size
      have b9:=bs.b7.lt;have df:=t.size;clear hV a0 al af c0 cJ fE aj bX bZ cf bT;obtain⟨a6,aL,aP⟩:=o.two;obtain⟨a0,al,af⟩:=aX.two;clear aX o;go_wp2;refine eh (fun _=>False) [(0,3),(1,0),(2,3),(3,3),(4,3),(5,3),(6,0),(7,3)] ?_;refine pf ?_;refine ph ?_
      iterate 4 refine pf ?_
      refine ph ?_;refine pf ?_;refine aD ?_;clear a2 bS;go_wp2;refine eh (fun _=>False) [(0,3),(1,0),(2,3),(3,3),(4,0),(5,3),(6,1),(7,1),(8,2),(9,3),(10,2)] ?_;refine pf ?_;refine bm (v:=?_) rfl (by rfl) (fun V hV=>?_) ?_;rotate_left
      ·obtain⟨hVc,hVf⟩:=Fr.fC hV
       (go_simp<;>with_reducible rfl)
      try simp only[PU]
      iterate 2 refine pf ?_
      refine bm (v:=?_) rfl (by rfl) (fun V hV=>?_) ?_;rotate_left
      ·obtain⟨hVc,hVf⟩:=Fr.fC hV
       (go_simp<;>with_reducible rfl)
      try simp only[PU]
      refine pf ?_;refine aA rfl (fun K hK=>?_);go_simp;refine(fp l x cZ g st _ _ _ _ _ _ _ (b0.on (bs.ext.trans t).drew.drew) (D.on U.o (Fr.ext t.drew.drew))).mono ?_;rintro e aH ⟨dz,cM,cd,aS,dl,cE,rfl,bo,ar⟩;refine hK _ _ (ar) ?_;clear hK K
      try simp only[PU]
      have aI:Ext V aH:=Fr.aE (Fr.aE ar);have n:(a4 (bt l x)).rep aH (fresh V aH) [.int .i64 dz,.int .i64 cM,.string cd,.slice aS dl cE]:=bo;have S:=t.trans aI;have aZ:=aI.size;have L:∀b,(Value.slice IA i ic).ownBlock=some b→b<V.heap.size:=fun b O=>by have:=(bs.g2.one.lt O).2;omega
      have aF:∀b,(Value.slice bj j lc).ownBlock=some b→b<V.heap.size:=fun b O=>by have:=(bs.g2.two.lt O).2;omega
      refine uQ ?_;refine ax rfl (fun K hK=>?_);rw[if_pos (by rfl)];refine lI lQ (.tmp 102) (.tmp 108) (by rfl) (bs.g2.al S).one (ld n ad L aF) (by rfl) (by rfl) (by rfl) ad ad ad ?_;intro bK cU aQ an aq b3 ce;have m:=(bs.b7.al S).on aq (fun O=>by have:=(bs.g2.one.lt O).1;omega);have bB:=bO an aq b3 S;clear an aq b3 bo n ar aI S t a0 al af a6 aL aP L aF aZ;obtain⟨a0,al,af⟩:=m.two;clear m;refine hK _ _ ?_;clear hK K
      try simp only[PU]
      refine pf ?_;refine ax rfl (fun K hK=>?_);go_simp;refine hK _ _ ?_;clear hK K
      try simp only[PU]
      refine aD ?_;clear a0 al af;generalize ah:World.setCell aQ _ _=bE;have az:=ae (bs.int bB.2.2.2 HA.o bB.1 bB.2.1 bB.2.2.1 ah);clear ah;go_wp2;go_roundw
      case rel=>exact⟨k+1,bK,i+1,cU,bj,j,lc,ad,by go_num,ad,ad,az.o⟩
      case measure=>simp[intOf];omega
    ·obtain rfl:k=n1:=ad;have aX:=hC.b7;have cq:=hC.b6;clear hC a0 al af;obtain⟨a0,al,af⟩:=aX.two;obtain⟨a6,aL,aP⟩:=cq.two;clear aX;go_wp2;generalize ah:World.setCell _ _ _=bE;obtain⟨bD,aN,cA⟩:=cx (cO op aK false IA i ic bj j lc).toList (by rfl) cq bs.ext ad ah;clear ah a0 al af a6 aL aP;obtain⟨bx,bd,be⟩:=bD.two;refine GM (v:=.agg (cO op aK false IA i ic bj j lc)) (by simp[results,Tryz.results139,go_sem,bx]) rfl ?_;have bR:=bs.g2.cZ cA fun b O _=>ad;have dk:=cA.size;rw[Gj ad] at bR;refine⟨IA,i,ic,bj,j,lc,rfl,?_,aN⟩;exact g0 (bR.one.sl (fun b ac J=>⟨by have:=J.1;omega,ac⟩) (fun b ac J=>⟨ad,ac⟩)) (bR.two.sl (fun b ac J=>⟨by have:=J.1;omega,ac⟩) (fun b ac J=>⟨ad,ac⟩)) bR.one.cap.1 bR.two.cap.1
section
variable {w ab aH aQ bJ cy X:World} {g B:Nat} {M:List bF} {F:List aG} {l:List dw} {bj:GR} {ln lc:Nat} {n:Int} {st:Nat} {code:List aC} {sites:List Int} {aV:GR} {bX:Nat} {bI:GR} {bq:Nat}
theorem cu.own(h:cu w g B M F l bj ln lc n st code sites aV bX bI bq){j:Nat}{v:Value}(ah:w.setCell ⟨g,j,none⟩ v=X):
  Mv g (.slice aV code.length bX) (.slice bI sites.length bq) w (.slice aV code.length bX) (.slice bI sites.length bq) X∧Fr (fun b=>b=g) w X∧jO B 60 12 3 1 X aV code.length bX (code.map dK) bI sites.length bq (sites.map D.i):=by
 have aw:Fr (fun b=>b=g) w X:=ah▸(Fr.refl (fun b=>b=g) w).setCell (.inl rfl) _;exact⟨Mv.E8 (aw.mono fun b O=>.inl O),aw,h.rows.cZ aw fun b O _=>by have:=h.base.1;omega⟩
namespace yw
theorem xv(h:p:=by
 rw[←ah];exact aT.aH 5 _
 ):p:=h
end yw
open yw in
theorem cu.stmt(h:cu w g B M F l bj ln lc n st code sites aV bX bI bq)(ah:w.setCell ⟨g,5,none⟩ (.int .i64 ((st+1:Nat):Int))=X) :
  cu X g B M F l bj ln lc n (st+1) code sites aV bX bI bq∧Mv g (.slice aV code.length bX) (.slice bI sites.length bq) w (.slice aV code.length bX) (.slice bI sites.length bq) X:=by
 exact xu
namespace yx
theorem xv(h:p:=by
 rw[←ah];exact aT.aH 4 _
 ):p:=h
end yx
open yx in
theorem cu.locals(h:cu w g B M F l bj ln lc n st code sites aV bX bI bq){L:Int}(ah:w.setCell ⟨g,4,none⟩ (.int .i64 L)=X):
  cu X g B M F l bj ln lc L st code sites aV bX bI bq∧Mv g (.slice aV code.length bX) (.slice bI sites.length bq) w (.slice aV code.length bX) (.slice bI sites.length bq) X:=by
 exact xu
theorem cu.AS(h:cu w g B M F l bj ln lc n st code sites aV bX bI bq){y:List dw}{bn:GR}{av cr:Nat}(hn:av≤1000000)(hl:Sl w (off (Ms g (.slice aV code.length bX) (.slice bI sites.length bq)) w) bn av (y.map bN))(ah:w.setCell ⟨g,3,none⟩ (.slice bn av cr)=X):
  cu X g B M F y bn av cr n st code sites aV bX bI bq∧Mv g (.slice aV code.length bX) (.slice bI sites.length bq) w (.slice aV code.length bX) (.slice bI sites.length bq) X:=by
 obtain⟨a5,aw,bR⟩:=h.own ah;obtain⟨GA,gn,gc,MA,mn,mc,FA,fn,fc,aT,cm,bZ,cz,cj⟩:=h.blk;refine⟨⟨⟨GA,gn,gc,MA,mn,mc,FA,fn,fc,?_,cm,bZ,cz.ch a5,cj.ch a5⟩,⟨h.base.1,Gu h.base.2 a5.fr.size⟩,⟨hn,hl.ch a5⟩,bR⟩,a5⟩;rw[←ah];exact aT.aH 3 _
theorem cu.target(h:cu w g B M F l bj ln lc n st code sites aV bX bI bq)(O:b<code.length)(t:Int):∃N,aV=some ⟨N,0,none⟩∧N<w.heap.size∧w.frozen? ⟨N,b*12+1,none⟩=false∧(∃u,w.cell? ⟨N,b*12+1,none⟩=some (.int .i64 u))∧
  ∀X,w.setCell ⟨N,b*12+1,none⟩ (.int .i64 t)=X→cu X g B M F l bj ln lc n st (et code b t) sites aV bX bI bq∧Mv g (.slice aV code.length bX) (.slice bI sites.length bq) w (.slice aV code.length bX) (.slice bI sites.length bq) X:=by
 obtain⟨hl,xs,ac,J⟩:=h.rows.one;obtain⟨N,bb,C,ck,aW,dh,a⟩:=j9 ac ad;have bN:xs.length=code.length*12:=by rw[D.jJ _ _ J,D.ke (z:=12) (fun d hd=>by obtain⟨x,_,rfl⟩:=GD.1 hd;exact k6 x),Gf]
 have ao:b*12+1<xs.length:=by rw[bN];omega
 have bl:xs[b*12+1]?=some (xs[b*12+1]'ao):=List.getElem?_eq_getElem _;have hint:∃u,xs[b*12+1]?=some (.int .i64 u):=by
  have hm:(code.map dK)[b]?=some (dK (code[b]'O)):=by rw[List.getElem?_map,List.getElem?_eq_getElem O];rfl
  obtain⟨cs,aX,a1,ba⟩:=D.qy J (z:=12) (fun d hd=>by obtain⟨x,_,rfl⟩:=GD.1 hd;exact k6 x) hm;unfold dK at aX;rw[bw,a9] at aX;obtain⟨y,rfl,aX⟩:=aX;rw[a9] at aX;obtain⟨bu,rfl,aX⟩:=aX;exact⟨_,ba 1 _ rfl⟩
 refine⟨N,bb,ck,dh _,?_,fun X ah=>?_⟩
 ·obtain⟨u,hu⟩:=hint;exact⟨u,aW _ _ hu⟩
 have I:(Value.slice aV code.length bX).ownBlock=some N:=by rw[bb];rfl
 have aw:Fr (fun b=>b=N) w X:=ah▸(Fr.refl (fun b=>b=N) w).setCell (.inl rfl) _;have a5:Mv g (.slice aV code.length bX) (.slice bI sites.length bq) w (.slice aV code.length bX) (.slice bI sites.length bq) X:=Mv.E8 (aw.mono fun b O=>by subst O;exact .inr (.inl I));have c:¬(Value.slice bI sites.length bq).ownBlock=some N:=h.rows.ne N I;obtain⟨GA,gn,gc,MA,mn,mc,FA,fn,fc,aT,cm,bZ,cz,cj⟩:=h.blk;refine⟨⟨⟨GA,gn,gc,MA,mn,mc,FA,fn,fc,?_,cm,bZ,?_,?_⟩,⟨h.base.1,Gu h.base.2 a5.fr.size⟩,⟨h.names.1,?_⟩,?_⟩,a5⟩
 ·rw[cd];exact aT.on aw (aB h.base.1)
 ·rw[cd];exact cz.ch a5
 ·rw[cd];exact cj.ch a5
 ·rw[cd];exact h.names.2.ch a5
 ·have bK:=a (b*12+1) (.int .i64 t) ad;rw[ah] at bK;rw[cd];refine⟨⟨by rw[Gf,cd],_,bK,?_⟩,?_,h.rows.ne⟩
  ·refine pG t code xs b ?_ O;exact D.cr (fun b O=>⟨O.1,by have:=aw.size;have:=O.2.1;omega,O.2.2⟩) _ _ (D.cJ (fun b aN=>aw.block b aN.2.1 fun he=>aN.2.2 (by rw[I,he])) _ _ J)
  ·exact h.rows.two.cz aw.size fun b ao hp=>aw.block b ao fun he=>by
    subst he;rcases hp with hp|hp
    ·exact hp.2 I
    ·exact c hp
end
theorem ag.ch{w ab:World}{g:Nat}{t:TypeId}{cs:Array Value}{cv sv a f:Value}(h:ag w b t cs)(hn:¬Ms g cv sv b)(a5:Mv g cv sv w a f ab):ag ab b t cs∧¬Ms g a f b:=
 ⟨h.on a5.fr hn,fun hm=>hn (a5.own b h.lt hm)⟩
theorem n7(b:aj):b.isNil=decide (b.list.length=0):=by cases b<;>simp[aj.isNil,aj.list]
theorem q1(b:aj):(cL b).length=b.list.length:=by rw[cq,Gf]
def Ag(e:dw):List Value:=[.string e.name,.int .i64 e.kind,.int .i64 e.n]
theorem ib:b0 prog 145 149 (.agg #[.string ⟨#[]⟩,.int .i64 0,.int .i64 0]) 3 32:=b0.mk' Tryz.underlying145 (by kernel_rfl) rfl ad
theorem iV{w:World}(e:dw):(bN e).rep w P (Ag e):=ho.2 rfl
theorem jW{w:World}(l:List dw):D.aL w P (l.map bN) (l.flatMap Ag):=lz iV l
theorem q7{w:World}{P Q:Nat→Prop}:∀{l:List dw} {xs:List Value},D.aL w P (l.map bN) xs→D.aL w Q (l.map bN) xs
 | [],xs,h=>by simpa only[GC,D.aL] using h
 | e::l,xs,h=>by
  rw[Gh] at h ⊢;obtain⟨x,y,rfl,hx,a3⟩:=dJ.1 h;exact dJ.2 ⟨x,y,rfl,ho.2 (ho.1 hx),q7 a3⟩
theorem jC{w:World}{n:Nat}{l:List dw}(h:Sl w (au w) A n (l.map bN)):Src w 3 A n (l.flatMap Ag):=
 Src.ru (Sl.Fq (f:=Ag) (sz:=3) (fun _ _ _ _ h=>ho.1 h) (fun _=>rfl) h) (fun _ _=>rfl) (fun x _ u hu=>by
  simp only[Ag,Gt,List.not_mem_nil,or_false] at hu;rcases hu with rfl|rfl|rfl<;>rfl) ad
theorem g3{w aH:World}{g B:Nat}{M:List bF}{F:List aG}{l:List dw}{bj:GR}{ln lc:Nat}{n:Int}{st:Nat}{code:List aC}{sites:List Int}{aV:GR}{bX:Nat}{bI:GR}{bq:Nat}(h:cu w g B M F l bj ln lc n st code sites aV bX bI bq)(hd:d.rep aH (fresh w aH) cs):
  d.rep aH (FW B g (.slice aV code.length bX) (.slice bI sites.length bq) aH) cs:=by
 have ao:=h.lt;have N:=h.base;refine D.aP (fun b O=>⟨by have:=O.1;omega,O.2,fun hm=>?_⟩) _ _ hd;have ac:=O.1;rcases hm with hm|hm|hm
 ·omega
 ·have:=(h.rows.one.lt hm).2;omega
 ·have:=(h.rows.two.lt hm).2;omega
theorem lU{w:World}{op:Int}{g:Bool}{e:VE}{eo en:Int}{es:ByteArray}{EA:GR}{em ec:Nat}(h:(a4 e).rep w P [.int .i64 eo,.int .i64 en,.string es,.slice EA em ec]):
  (dK ⟨op,t,g,some e,jf,[],[]⟩).rep w P [.int .i64 op,.int .i64 t,.bool g,.int .i64 eo,.int .i64 en,.string es,.slice EA em ec,.bool false,.int .i64 0,.slice none 0 0,.slice none 0 0,.slice none 0 0]:=by
 unfold dK;rw[bw];exact a9.2 ⟨_,rfl,a9.2 ⟨_,rfl,eE.2 ⟨_,rfl,dJ.2 ⟨[_,_,_,_],_,rfl,h,mC (aJ.2 ⟨none,0,0,_,rfl,Gb _,Sl.bu _,aJ.2 ⟨none,0,0,[],rfl,Gb _,Sl.bu _,aM.2 rfl⟩⟩)⟩⟩⟩⟩
theorem nS{w:World}{op:Int}{g:Bool}{p:bK}{eN:Bool}{pi:Int}{PA:GR}{pm pc:Nat}(h:(cV p).rep w P [.bool eN,.int .i64 pi,.slice PA pm pc]):
  (dK ⟨op,t,g,none,p,[],[]⟩).rep w P [.int .i64 op,.int .i64 t,.bool g,.int .i64 0,.int .i64 0,.string ⟨#[]⟩,.slice none 0 0,.bool eN,.int .i64 pi,.slice PA pm pc,.slice none 0 0,.slice none 0 0]:=by
 unfold dK;rw[bw];exact a9.2 ⟨_,rfl,a9.2 ⟨_,rfl,eE.2 ⟨_,rfl,oE (dJ.2 ⟨[_,_,_],_,rfl,h,aJ.2 ⟨none,0,0,_,rfl,Gb _,Sl.bu _,aJ.2 ⟨none,0,0,[],rfl,Gb _,Sl.bu _,aM.2 rfl⟩⟩⟩)⟩⟩⟩
def kT(U:gu)(nk:Int)(F:List aG)(b:aj):Prop:=
 ∀(G:Env) (d:Nat) (l:List dw) (V T:GS) (n:Int) (st:Nat) (code:List aC) (sites:List Int) (g B:Nat) (bj:GR) (ln lc:Nat) (aV:GR) (bX:Nat) (bI:GR) (bq:Nat) (A:GR) (m c:Nat) (w:World),
  ej G d V T b→Sc U G l V T n nk→r4 F G l→(∀f∈F,f.params.length≤1000)→cu w g B U.af F l bj ln lc n st code sites aV bX bI bq→Sl w (off (Ms g (.slice aV code.length bX) (.slice bI sites.length bq)) w) A m (cL b)→
  code.length+2*b.num≤100000→sites.length=code.length→n+b.num≤100000→st+b.num≤100000→l.length+b.num≤100000→
  Calls prog 106 #[.pointer (some ⟨g,0,none⟩),.slice A m c] w fun e ab=>e=.returned (.tuple #[])∧∃Y an aS be u,u.length=(b2 b l n code).1.length∧
   cu ab g B U.af F l bj ln lc (b2 b l n code).2 (st+b.num) (b2 b l n code).1 u Y an aS be∧
   Mv g (.slice aV code.length bX) (.slice bI sites.length bq) w (.slice Y (b2 b l n code).1.length an) (.slice aS u.length be) ab
end Go.Proofs.YtjhgbdckgkppnaaGreat
