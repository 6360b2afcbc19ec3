/- Part 37 of the proof (Pg3 PgE), without conditions of its own. -/
import Derived.Test.YtjhgbdckgkppnaaGreatQ36
namespace Go.Proofs.YtjhgbdckgkppnaaGreat
open Go.RowKit Go.Proofs.Tryz
set_option maxRecDepth 1000000
set_option maxHeartbeats 25600000
set_option linter.unusedVariables false
variable{G:List (ByteArray×Int)}{F:List aG}{M:List bF}{i:Nat}{p:Prop}{f:aG}
namespace zL
theorem wV(h:p:=by
 generalize cl:IntKind.u8.wrap (IntKind.i64.wrap (48+(m:Int)))=bv;obtain⟨X,hT⟩:∃X,X=wr.heap.size:=⟨_,rfl⟩
 have aZ:=ae cl;clear cl;have hL:(strOf [byteOf bv]).size=1:=aI _;have H:=ai bW.1 (Fr.refl (fun b=>b=S.heap.size+1) wr);refine f4 (P:=?mM) (ops:=?gQ) (Q:=?gR) (R:=?gS) (tails:=?gT) (rest:=.pick [14] (fun _=>.stop)) (aa:=?gP)
  (C:=fun(a1 aj j:Nat) bF=>bV bF (S.heap.size+1) A n c l∧Fr (fun b=>b=S.heap.size+1) wr bF∧ag bF aj 142 #[.string ⟨#[]⟩,.bool false]∧X≤aj∧j<3) (fun key=>?gh) ?gg
 case gh=>
  refine hM ?_ ?_ ?_
  ·
   refine dU ?_;refine aO (fun V=>Ext wr V∧ag V wr.heap.size 5 #[.int .u8 bv]) ⟨(GN.alloc _).drew,GO⟩ (fun gX hV=>?_);have be:=ai (H.1.ch hV.1 fun _ _ h=>h) (H.2.trans (hV.1.mono fun _ h=>h.elim));have iZ:wr.heap.size≤wr.heap.size:=H.2.size;have cs:=ae hV.2;clear hV;obtain⟨e0,bl,a5⟩:=cs.two;refine bx (v:=?_) rfl (by rfl) (fun V hV=>?_) ?_;rotate_left
   ·have bJ:=c6 V (wr.heap.size) bv ((hV.cell a5 ad).trans (e0 0))
    (go_simp<;>with_reducible rfl)
   try simp only[PU]
   clear e0 bl a5;refine tf ?_;refine aR ?_ ?_
   ·
    refine az rfl (fun K hK=>?_) rfl;go_simp;refine(aN _ (S.heap.size+1) A n c l 3 (be.1.ch (M:=fun _=>False) GN (fun _ _ h=>h)) ad ad).mono ?_;rintro e gY ⟨cr,rfl,aV,O,h,he⟩;obtain⟨j,rfl⟩:=Gg aV;have ba:j<3:=ad;have t:Fr (fun b=>b=S.heap.size+1) gX gY:=he.fr;have c0:=ai h (be.2.trans t);have h1:=ae (cs.on t ad);refine hK _ _ (he.fr) ?_;clear hK K
    try simp only[PU]
    clear h he t aV O
    iterate 2 refine tf ?_
    refine ak ?_;refine dU ?_;refine aO (fun V=>Ext gY V∧ag V gY.heap.size 142 #[.string ⟨#[]⟩,.bool false]) ⟨GN.alloc _,GO⟩ (fun jz hV=>?_);have hk:=ai (c0.1.ch hV.1 fun _ _ h=>h) (c0.2.trans (hV.1.mono fun _ h=>h.elim));have i0:wr.heap.size≤gY.heap.size:=c0.2.size;have h9:=ae hV.2;have iN:=ae (h1.al hV.1);clear hV;have av:=And.intro hk.1 (And.intro hk.2 (And.intro h9.o (And.intro (show X≤gY.heap.size by omega) ba)));revert av;generalize wr.heap.size=a1;generalize gY.heap.size=aj;intro av;exact key a1 aj j _ av
   ·
    refine dU ?_;refine aO (fun V=>Ext gX V∧ag V gX.heap.size 142 #[.string ⟨#[]⟩,.bool false]) ⟨GN.alloc _,GO⟩ (fun jj hV=>?_);have hl:=ai (be.1.ch hV.1 fun _ _ h=>h) (be.2.trans (hV.1.mono fun _ h=>h.elim));have i1:wr.heap.size≤gX.heap.size:=be.2.size;have ia:=ae hV.2;have h2:=ae (cs.al hV.1);clear hV;refine ak ?_;refine az rfl (fun K hK=>?_) rfl;go_simp;refine(aN _ (S.heap.size+1) A n c l 3 (hl.1.ch (M:=fun _=>False) GN (fun _ _ h=>h)) ad ad).mono ?_;rintro e jk ⟨cr,rfl,aV,O,h,he⟩;obtain⟨j,rfl⟩:=Gg aV;have ba:j<3:=ad;have t:Fr (fun b=>b=S.heap.size+1) jj jk:=he.fr;have hm:=ai h (hl.2.trans t);have iO:=ae (h2.on t ad);have ib:=ae (ia.on t ad);refine hK _ _ (he.fr) ?_;clear hK K
    try simp only[PU]
    clear h he t aV O
    iterate 2 refine tf ?_
    have av:=And.intro hm.1 (And.intro hm.2 (And.intro ib.o (And.intro (show X≤gX.heap.size by omega) ba)));revert av;generalize wr.heap.size=a1;generalize gX.heap.size=aj;intro av;exact key a1 aj j _ av
  ·
   refine az rfl (fun K hK=>?_) rfl;go_simp;refine(aN _ (S.heap.size+1) A n c l 3 (H.1.ch (M:=fun _=>False) (GN.drew) (fun _ _ h=>h)) ad ad).mono ?_;rintro e aQ ⟨cr,rfl,aV,O,h,he⟩;obtain⟨j,rfl⟩:=Gg aV;have ba:j<3:=ad;have t:Fr (fun b=>b=S.heap.size+1) wr aQ:=Fr.aE he.fr;have z:=ai h (H.2.trans t);refine hK _ _ (he.fr) ?_;clear hK K
   try simp only[PU]
   clear h he t aV O;refine tf ?_;refine aR ?_ ?_
   ·
    refine dU ?_;refine aO (fun V=>Ext aQ V∧ag V aQ.heap.size 5 #[.int .u8 bv]) ⟨GN.alloc _,GO⟩ (fun g7 hV=>?_);have c1:=ai (z.1.ch hV.1 fun _ _ h=>h) (z.2.trans (hV.1.mono fun _ h=>h.elim));have i2:wr.heap.size≤aQ.heap.size:=z.2.size;have hc:=ae hV.2;clear hV;obtain⟨e0,bl,a5⟩:=hc.two;refine bx (v:=?_) rfl (by rfl) (fun V hV=>?_) ?_;rotate_left
    ·have bJ:=c6 V (aQ.heap.size) bv ((hV.cell a5 ad).trans (e0 0))
     (go_simp<;>with_reducible rfl)
    try simp only[PU]
    clear e0 bl a5
    iterate 2 refine tf ?_
    refine ak ?_;refine dU ?_;refine aO (fun V=>Ext g7 V∧ag V g7.heap.size 142 #[.string ⟨#[]⟩,.bool false]) ⟨GN.alloc _,GO⟩ (fun jA hV=>?_);have hn:=ai (c1.1.ch hV.1 fun _ _ h=>h) (c1.2.trans (hV.1.mono fun _ h=>h.elim));have i3:wr.heap.size≤g7.heap.size:=c1.2.size;have ic:=ae hV.2;have iP:=ae (hc.al hV.1);clear hV;have av:=And.intro hn.1 (And.intro hn.2 (And.intro ic.o (And.intro (show X≤g7.heap.size by omega) ba)));revert av;generalize aQ.heap.size=a1;generalize g7.heap.size=aj;intro av;exact key a1 aj j _ av
   ·
    refine dU ?_;refine aO (fun V=>Ext aQ V∧ag V aQ.heap.size 142 #[.string ⟨#[]⟩,.bool false]) ⟨GN.alloc _,GO⟩ (fun g8 hV=>?_);have c3:=ai (z.1.ch hV.1 fun _ _ h=>h) (z.2.trans (hV.1.mono fun _ h=>h.elim));have i4:wr.heap.size≤aQ.heap.size:=z.2.size;have ie:=ae hV.2;clear hV;refine ak ?_;refine dU ?_;refine aO (fun V=>Ext g8 V∧ag V g8.heap.size 5 #[.int .u8 bv]) ⟨GN.alloc _,GO⟩ (fun jB hV=>?_);have ho:=ai (c3.1.ch hV.1 fun _ _ h=>h) (c3.2.trans (hV.1.mono fun _ h=>h.elim));have i5:wr.heap.size≤g8.heap.size:=c3.2.size;have h3:=ae hV.2;have ig:=ae (ie.al hV.1);clear hV;obtain⟨e0,bl,a5⟩:=h3.two;refine bx (v:=?_) rfl (by rfl) (fun V hV=>?_) ?_;rotate_left
    ·have bJ:=c6 V (g8.heap.size) bv ((hV.cell a5 ad).trans (e0 0))
     (go_simp<;>with_reducible rfl)
    try simp only[PU]
    clear e0 bl a5
    iterate 2 refine tf ?_
    have av:=And.intro ho.1 (And.intro ho.2 (And.intro ig.o (And.intro (show X≤aQ.heap.size by omega) ba)));revert av;generalize g8.heap.size=a1;generalize aQ.heap.size=aj;intro av;exact key a1 aj j _ av
  ·
   refine dU ?_;refine aO (fun V=>Ext wr V∧ag V wr.heap.size 142 #[.string ⟨#[]⟩,.bool false]) ⟨(GN.alloc _).drew,GO⟩ (fun gZ hV=>?_);have bj:=ai (H.1.ch hV.1 fun _ _ h=>h) (H.2.trans (hV.1.mono fun _ h=>h.elim));have i6:wr.heap.size≤wr.heap.size:=H.2.size;have hB:=ae hV.2;clear hV;refine aR ?_ ?_
   ·
    refine dU ?_;refine aO (fun V=>Ext gZ V∧ag V gZ.heap.size 5 #[.int .u8 bv]) ⟨GN.alloc _,GO⟩ (fun jl hV=>?_);have hp:=ai (bj.1.ch hV.1 fun _ _ h=>h) (bj.2.trans (hV.1.mono fun _ h=>h.elim));have i7:wr.heap.size≤gZ.heap.size:=bj.2.size;have hd:=ae hV.2;have ih:=ae (hB.al hV.1);clear hV;obtain⟨e0,bl,a5⟩:=hd.two;refine bx (v:=?_) rfl (by rfl) (fun V hV=>?_) ?_;rotate_left
    ·have bJ:=c6 V (gZ.heap.size) bv ((hV.cell a5 ad).trans (e0 0))
     (go_simp<;>with_reducible rfl)
    try simp only[PU]
    clear e0 bl a5;refine tf ?_;refine ak ?_;refine az rfl (fun K hK=>?_) rfl;go_simp;refine(aN _ (S.heap.size+1) A n c l 3 (hp.1.ch (M:=fun _=>False) GN (fun _ _ h=>h)) ad ad).mono ?_;rintro e jm ⟨cr,rfl,aV,O,h,he⟩;obtain⟨j,rfl⟩:=Gg aV;have ba:j<3:=ad;have t:Fr (fun b=>b=S.heap.size+1) jl jm:=he.fr;have hq:=ai h (hp.2.trans t);have iQ:=ae (hd.on t ad);have ii:=ae (ih.on t ad);refine hK _ _ (he.fr) ?_;clear hK K
    try simp only[PU]
    clear h he t aV O
    iterate 2 refine tf ?_
    have av:=And.intro hq.1 (And.intro hq.2 (And.intro ii.o (And.intro (show X≤wr.heap.size by omega) ba)));revert av;generalize gZ.heap.size=a1;exact o3
   ·
    refine az rfl (fun K hK=>?_) rfl;go_simp;refine(aN _ (S.heap.size+1) A n c l 3 (bj.1.ch (M:=fun _=>False) GN (fun _ _ h=>h)) ad ad).mono ?_;rintro e g0 ⟨cr,rfl,aV,O,h,he⟩;obtain⟨j,rfl⟩:=Gg aV;have ba:j<3:=ad;have t:Fr (fun b=>b=S.heap.size+1) gZ g0:=he.fr;have di:=ai h (bj.2.trans t);have ij:=ae (hB.on t ad);refine hK _ _ (he.fr) ?_;clear hK K
    try simp only[PU]
    clear h he t aV O;refine tf ?_;refine ak ?_;refine dU ?_;refine aO (fun V=>Ext g0 V∧ag V g0.heap.size 5 #[.int .u8 bv]) ⟨GN.alloc _,GO⟩ (fun jC hV=>?_);have hr:=ai (di.1.ch hV.1 fun _ _ h=>h) (di.2.trans (hV.1.mono fun _ h=>h.elim));have i8:wr.heap.size≤g0.heap.size:=di.2.size;have h4:=ae hV.2;have ik:=ae (ij.al hV.1);clear hV;obtain⟨e0,bl,a5⟩:=h4.two;refine bx (v:=?_) rfl (by rfl) (fun V hV=>?_) ?_;rotate_left
    ·have bJ:=c6 V (g0.heap.size) bv ((hV.cell a5 ad).trans (e0 0))
     (go_simp<;>with_reducible rfl)
    try simp only[PU]
    clear e0 bl a5
    iterate 2 refine tf ?_
    have av:=And.intro hr.1 (And.intro hr.2 (And.intro ik.o (And.intro (show X≤wr.heap.size by omega) ba)));revert av;generalize g0.heap.size=a1;exact o3
 case gg=>
  exact CY
 ):p:=h
theorem xH(h:p:=by
 refine(aN w (S.heap.size+1) A n c l 4 gF.src ad ad).mono ?_;rintro e aH ⟨cm,rfl,aM,bQ,h,he⟩;obtain⟨N,rfl⟩:=Gg aM;have gO:N<4:=ad;have hi:=ae (gF.next h he.fr);clear h he a0 al af gF aM bQ;go_wp2_with (fail);go_loopw [12] (fun cp wr=>∃(i:Nat) (FA:GR) (fc:Nat) (F:List aG),cp=.int .i64 i∧i≤N+1∧v8 S I wr A n c l ar MA mn mc M GA gn gc G o u FA i fc F) (fun cp _=>N+1 - (intOf cp).toNat)
 case atStart=>exact⟨0,none,0,[],rfl,ad,hi.o⟩
 case round=>
  obtain⟨i,FA,fc,F,rfl,aJ,U⟩:=hrel;obtain⟨cu,rfl⟩:∃cu,cu=wr:=⟨wr,rfl⟩
  clear hi;have b9:=ae U;obtain⟨a0,al,af⟩:=U.blk.two;have b2:F.length=i:=by have:=U.fs.len;simpa using this
  have hD:=U.hD;clear U;by_cases ao:i≤N
  ·have gH:(i:Int)≤(N:Int):=ad;have b4:i≤3:=ad;have bJ:=fun(W:World) (v:Int)=>jS W v;have iG:∀v,(strOf [byteOf v]).size=1:=fun v=>aI _;go_upto_region 24 with(fail);clear iG;generalize ah:World.alloc _ _=gK;have cj:Ext cu gK:=ah▸(GN.alloc _).alloc _;have hE:ag gK (cu.heap.size+1) 140 #[.string (⟨#[102]⟩++strOf [byteOf (48+(i:Int))]),.slice none 0 0,.slice none 0 0]:=by
    rw[←ah];exact ag.bR _ _ _ (by simp)
   have fE:=b9.src.ch cj fun _ _ h=>h;have c4:=aK fE cj hE;clear ah cj hE fE a0 al af;by_cases gU:i=0
   ·have dN:((i:Int) == 0)=true:=by simp;omega
    obtain⟨fn,bK,dr⟩:=c4.2.2.two;have eL:=ae gU;clear gU;go_upto_region 26 with(fail);generalize ah:World.setCell _ _ _=Y;have aw:Fr (fun b=>b=cu.heap.size+1) gK Y:=ah▸(Fr.refl (fun b=>b=cu.heap.size+1) gK).setCell (.inl rfl) _;have jx:=b9.blk.lt;have hF:bV Y (S.heap.size+1) A n c l∧Fr (fun b=>b=S.heap.size+1) cu Y∧ag Y (cu.heap.size+1) 140 #[.string (hv i),.slice none 0 0,.slice none 0 0]:=by
     refine⟨c4.1.ch aw (fun b O h=>ad),(c4.2.1.mono fun _ h=>h.elim).eg (aw.below c4.2.1.size fun k ap h=>ad),?_⟩;rw[←ah,eL.o];exact c4.2.2.aH 0 _
    clear ah aw fn bK dr c4;clear bJ;have bW:=ae hF;obtain⟨a0,al,af⟩:=(b9.next bW.1 bW.2.1).blk.two;clear hF;go_wp2_with (fail);refine(aN Y (S.heap.size+1) A n c l 3 bW.1 ad ad).mono ?_;rintro e hb ⟨bZ,rfl,aM,bQ,h,he⟩;obtain⟨hO,rfl⟩:=Gg aM;have an:hO≤2:=ad;have au:=aK h (bW.2.1.trans he.fr) (bW.2.2.on he.fr (aB b9.blk.lt));clear h he a0 al af bW aM bQ;go_wp2_with (fail);go_loopw [14] (fun hQ bX=>∃(m:Nat) (PA:GR) (pn pc:Nat) (ps:List (ByteArray×Bool)),hQ=.int .i64 m∧m≤2∧pn+m≤2∧(i=0→ps=[])∧(i≠0→ps.map (·.1)++dS m=dS hO)∧bV bX (S.heap.size+1) A n c l∧Fr (fun b=>b=S.heap.size+1) cu bX∧ag bX (cu.heap.size+1) 140 #[.string (hv i),.slice PA pn pc,.slice none 0 0]∧Gr (fun _=>False) (cu.heap.size+1+1) 142 2 bX PA pn pc (ps.map cW)) (fun hQ _=>(intOf hQ).toNat)
    case atStart=>exact⟨hO,none,0,0,[],rfl,an,ad,fun _=>rfl,fun _=>rfl,au.1,au.2.1,au.2.2,Gr.nil _ _ _ _ _⟩
    case round=>
     obtain⟨m,PA,pn,pc,ps,rfl,L,gV,b1,cb,hF⟩:=hrel;clear au;have bW:=ae hF;have gl:=ai b1 cb;have gy:=b9.next hF.1 hF.2.1;obtain⟨a0,al,af⟩:=gy.blk.two;obtain⟨fn,bK,dr⟩:=hF.2.2.1.two;have hj:=ae gy;clear hF b1 cb gy;by_cases ao:0<m∧0<i
     ·obtain⟨hJ,bR⟩:=ao;have co:decide ((m:Int) > 0)=true:=by simp;omega
      have ej:decide ((i:Int) > 0)=true:=by simp;omega
      have hU:(m:Int)≤2:=ad;have gJ:¬S.heap.size+1+1=S.heap.size+1:=ad;have ck:S.heap.size+1+1<wr.heap.size:=hj.blk.lt;clear fn bK dr;go_upto_region 29 with(fail);exact wU
     ·have T:(¬0<m)∨((0<m)∧¬0<i):=by
       exact wD
      exact xY
   ·have dN:((i:Int) == 0)=false:=by simp;omega
    have eL:=ae gU;clear gU;go_upto_region 26 with(fail);have hF:bV gK (S.heap.size+1) A n c l∧Fr (fun b=>b=S.heap.size+1) cu gK∧ag gK (cu.heap.size+1) 140 #[.string (hv i),.slice none 0 0,.slice none 0 0]:=⟨c4.1,c4.2.1.mono fun _ h=>h.elim,by have:=c4.2.2;rw[Av ad eL.o rfl] at this;exact this⟩
    clear c4;revert hF;generalize gK=Y;intro hF;clear bJ;have bW:=ae hF;obtain⟨a0,al,af⟩:=(b9.next bW.1 bW.2.1).blk.two;clear hF;go_wp2_with (fail);refine(aN Y (S.heap.size+1) A n c l 3 bW.1 ad ad).mono ?_;rintro e hb ⟨bZ,rfl,aM,bQ,h,he⟩;obtain⟨hO,rfl⟩:=Gg aM;have an:hO≤2:=ad;have au:=aK h (bW.2.1.trans he.fr) (bW.2.2.on he.fr (aB b9.blk.lt));clear h he a0 al af bW aM bQ;go_wp2_with (fail);go_loopw [14] (fun hQ bX=>∃(m:Nat) (PA:GR) (pn pc:Nat) (ps:List (ByteArray×Bool)),hQ=.int .i64 m∧m≤2∧pn+m≤2∧(i=0→ps=[])∧(i≠0→ps.map (·.1)++dS m=dS hO)∧bV bX (S.heap.size+1) A n c l∧Fr (fun b=>b=S.heap.size+1) cu bX∧ag bX (cu.heap.size+1) 140 #[.string (hv i),.slice PA pn pc,.slice none 0 0]∧Gr (fun _=>False) (cu.heap.size+1+1) 142 2 bX PA pn pc (ps.map cW)) (fun hQ _=>(intOf hQ).toNat)
    case atStart=>exact⟨hO,none,0,0,[],rfl,an,ad,fun _=>rfl,fun _=>rfl,au.1,au.2.1,au.2.2,Gr.nil _ _ _ _ _⟩
    case round=>
     obtain⟨m,PA,pn,pc,ps,rfl,L,gV,b1,cb,hF⟩:=hrel;clear au;have bW:=ae hF;have gl:=ai b1 cb;have gy:=b9.next hF.1 hF.2.1;obtain⟨a0,al,af⟩:=gy.blk.two;obtain⟨fn,bK,dr⟩:=hF.2.2.1.two;have hj:=ae gy;clear hF b1 cb gy;by_cases ao:0<m∧0<i
     ·obtain⟨hJ,bR⟩:=ao;have co:decide ((m:Int) > 0)=true:=by simp;omega
      have ej:decide ((i:Int) > 0)=true:=by simp;omega
      have hU:(m:Int)≤2:=ad;have gJ:¬S.heap.size+1+1=S.heap.size+1:=ad;have ck:S.heap.size+1+1<wr.heap.size:=hj.blk.lt;clear fn bK dr;go_upto_region 29 with(fail);refine o2 (fun b=>b=S.heap.size+1) [14] (.free 0 (.free 1 (.free 2 (.free 6 (.free 7 (.free 8 (.held 9 (.pick [3,10,13] (fun i=>bif i == 3 then .held 4 (.free 5 (.pick [10,13] (fun i=>bif i == 10 then .free 11 (.free 12 (.pick [13] (fun _=>.pick [14] (fun _=>.stop)))) else .pick [10] (fun _=>.free 11 (.free 12 (.pick [14] (fun _=>.stop))))))) else bif i == 10 then .free 11 (.pick [3,13] (fun i=>bif i == 3 then .held 4 (.free 5 (.free 12 (.pick [13] (fun _=>.pick [14] (fun _=>.stop))))) else .pick [3] (fun _=>.held 4 (.free 5 (.free 12 (.pick [14] (fun _=>.stop))))))) else .pick [3,10] (fun i=>bif i == 3 then .held 4 (.free 5 (.pick [10] (fun _=>.free 11 (.free 12 (.pick [14] (fun _=>.stop)))))) else .free 11 (.pick [3] (fun _=>.held 4 (.free 5 (.free 12 (.pick [14] (fun _=>.stop)))))))))))))))) ?_
      iterate 6 refine tf ?_
      refine mE ?_;clear a0 al af;generalize cl:IntKind.u8.wrap (IntKind.i64.wrap (48+(m:Int)))=bv;obtain⟨X,hT⟩:∃X,X=wr.heap.size:=⟨_,rfl⟩
      have aZ:=ae cl;clear cl;have hL:(strOf [byteOf bv]).size=1:=aI _;have H:=ai bW.1 (Fr.refl (fun b=>b=S.heap.size+1) wr);refine f4 (P:=?iC) (ops:=?iH) (Q:=?iJ) (R:=?iK) (tails:=?iL) (rest:=.pick [14] (fun _=>.stop)) (aa:=?iD)
       (C:=fun(a1 aj j:Nat) bF=>bV bF (S.heap.size+1) A n c l∧Fr (fun b=>b=S.heap.size+1) wr bF∧ag bF aj 142 #[.string ⟨#[]⟩,.bool false]∧X≤aj∧j<3) (fun key=>?hP) ?hN
      case hP=>
       refine hM ?_ ?_ ?_
       ·
        refine dU ?_;refine aO (fun V=>Ext wr V∧ag V wr.heap.size 5 #[.int .u8 bv]) ⟨(GN.alloc _).drew,GO⟩ (fun g1 hV=>?_);have bB:=ai (H.1.ch hV.1 fun _ _ h=>h) (H.2.trans (hV.1.mono fun _ h=>h.elim));have i9:wr.heap.size≤wr.heap.size:=H.2.size;have cy:=ae hV.2;clear hV;obtain⟨e0,bl,a5⟩:=cy.two;refine bx (v:=?_) rfl (by rfl) (fun V hV=>?_) ?_;rotate_left
        ·have bJ:=c6 V (wr.heap.size) bv ((hV.cell a5 ad).trans (e0 0))
         (go_simp<;>with_reducible rfl)
        try simp only[PU]
        clear e0 bl a5;refine tf ?_;refine aR ?_ ?_
        ·
         refine az rfl (fun K hK=>?_) rfl;go_simp;refine(aN _ (S.heap.size+1) A n c l 3 (bB.1.ch (M:=fun _=>False) GN (fun _ _ h=>h)) ad ad).mono ?_;rintro e g2 ⟨cr,rfl,aV,O,h,he⟩;obtain⟨j,rfl⟩:=Gg aV;have ba:j<3:=ad;have t:Fr (fun b=>b=S.heap.size+1) g1 g2:=he.fr;have eN:=ai h (bB.2.trans t);have h5:=ae (cy.on t ad);refine hK _ _ (he.fr) ?_;clear hK K
         try simp only[PU]
         clear h he t aV O
         iterate 2 refine tf ?_
         refine ak ?_;refine dU ?_;refine aO (fun V=>Ext g2 V∧ag V g2.heap.size 142 #[.string ⟨#[]⟩,.bool false]) ⟨GN.alloc _,GO⟩ (fun jD hV=>?_);have hs:=ai (eN.1.ch hV.1 fun _ _ h=>h) (eN.2.trans (hV.1.mono fun _ h=>h.elim));have ja:wr.heap.size≤g2.heap.size:=eN.2.size;have il:=ae hV.2;have iR:=ae (h5.al hV.1);clear hV;have av:=And.intro hs.1 (And.intro hs.2 (And.intro il.o (And.intro (show X≤g2.heap.size by omega) ba)));revert av;generalize wr.heap.size=a1;generalize g2.heap.size=aj;intro av;exact key a1 aj j _ av
        ·
         refine dU ?_;refine aO (fun V=>Ext g1 V∧ag V g1.heap.size 142 #[.string ⟨#[]⟩,.bool false]) ⟨GN.alloc _,GO⟩ (fun jn hV=>?_);have ht:=ai (bB.1.ch hV.1 fun _ _ h=>h) (bB.2.trans (hV.1.mono fun _ h=>h.elim));have jb:wr.heap.size≤g1.heap.size:=bB.2.size;have im:=ae hV.2;have h6:=ae (cy.al hV.1);clear hV;refine ak ?_;refine az rfl (fun K hK=>?_) rfl;go_simp;refine(aN _ (S.heap.size+1) A n c l 3 (ht.1.ch (M:=fun _=>False) GN (fun _ _ h=>h)) ad ad).mono ?_;rintro e jo ⟨cr,rfl,aV,O,h,he⟩;obtain⟨j,rfl⟩:=Gg aV;have ba:j<3:=ad;have t:Fr (fun b=>b=S.heap.size+1) jn jo:=he.fr;have hu:=ai h (ht.2.trans t);have iS:=ae (h6.on t ad);have io:=ae (im.on t ad);refine hK _ _ (he.fr) ?_;clear hK K
         try simp only[PU]
         clear h he t aV O
         iterate 2 refine tf ?_
         have av:=And.intro hu.1 (And.intro hu.2 (And.intro io.o (And.intro (show X≤g1.heap.size by omega) ba)));revert av;generalize wr.heap.size=a1;generalize g1.heap.size=aj;intro av;exact key a1 aj j _ av
       ·
        refine az rfl (fun K hK=>?_) rfl;go_simp;refine(aN _ (S.heap.size+1) A n c l 3 (H.1.ch (M:=fun _=>False) (GN.drew) (fun _ _ h=>h)) ad ad).mono ?_;rintro e bc ⟨cr,rfl,aV,O,h,he⟩;obtain⟨j,rfl⟩:=Gg aV;have ba:j<3:=ad;have t:Fr (fun b=>b=S.heap.size+1) wr bc:=Fr.aE he.fr;have ay:=ai h (H.2.trans t);refine hK _ _ (he.fr) ?_;clear hK K
        try simp only[PU]
        clear h he t aV O;refine tf ?_;refine aR ?_ ?_
        ·
         refine dU ?_;refine aO (fun V=>Ext bc V∧ag V bc.heap.size 5 #[.int .u8 bv]) ⟨GN.alloc _,GO⟩ (fun g9 hV=>?_);have e1:=ai (ay.1.ch hV.1 fun _ _ h=>h) (ay.2.trans (hV.1.mono fun _ h=>h.elim));have jc:wr.heap.size≤bc.heap.size:=ay.2.size;have hf:=ae hV.2;clear hV;obtain⟨e0,bl,a5⟩:=hf.two;refine bx (v:=?_) rfl (by rfl) (fun V hV=>?_) ?_;rotate_left
         ·have bJ:=c6 V (bc.heap.size) bv ((hV.cell a5 ad).trans (e0 0))
          (go_simp<;>with_reducible rfl)
         try simp only[PU]
         clear e0 bl a5
         iterate 2 refine tf ?_
         refine ak ?_;refine dU ?_;refine aO (fun V=>Ext g9 V∧ag V g9.heap.size 142 #[.string ⟨#[]⟩,.bool false]) ⟨GN.alloc _,GO⟩ (fun jE hV=>?_);have hw:=ai (e1.1.ch hV.1 fun _ _ h=>h) (e1.2.trans (hV.1.mono fun _ h=>h.elim));have jd:wr.heap.size≤g9.heap.size:=e1.2.size;have ip:=ae hV.2;have iT:=ae (hf.al hV.1);clear hV;have av:=And.intro hw.1 (And.intro hw.2 (And.intro ip.o (And.intro (show X≤g9.heap.size by omega) ba)));revert av;generalize bc.heap.size=a1;generalize g9.heap.size=aj;intro av;exact key a1 aj j _ av
        ·
         refine dU ?_;refine aO (fun V=>Ext bc V∧ag V bc.heap.size 142 #[.string ⟨#[]⟩,.bool false]) ⟨GN.alloc _,GO⟩ (fun ha hV=>?_);have e2:=ai (ay.1.ch hV.1 fun _ _ h=>h) (ay.2.trans (hV.1.mono fun _ h=>h.elim));have je:wr.heap.size≤bc.heap.size:=ay.2.size;have iq:=ae hV.2;clear hV;refine ak ?_;refine dU ?_;refine aO (fun V=>Ext ha V∧ag V ha.heap.size 5 #[.int .u8 bv]) ⟨GN.alloc _,GO⟩ (fun jF hV=>?_);have hx:=ai (e2.1.ch hV.1 fun _ _ h=>h) (e2.2.trans (hV.1.mono fun _ h=>h.elim));have jf:wr.heap.size≤ha.heap.size:=e2.2.size;have h7:=ae hV.2;have ir:=ae (iq.al hV.1);clear hV;obtain⟨e0,bl,a5⟩:=h7.two;refine bx (v:=?_) rfl (by rfl) (fun V hV=>?_) ?_;rotate_left
         ·have bJ:=c6 V (ha.heap.size) bv ((hV.cell a5 ad).trans (e0 0))
          (go_simp<;>with_reducible rfl)
         try simp only[PU]
         clear e0 bl a5
         iterate 2 refine tf ?_
         have av:=And.intro hx.1 (And.intro hx.2 (And.intro ir.o (And.intro (show X≤bc.heap.size by omega) ba)));revert av;generalize ha.heap.size=a1;generalize bc.heap.size=aj;intro av;exact key a1 aj j _ av
       ·
        refine dU ?_;refine aO (fun V=>Ext wr V∧ag V wr.heap.size 142 #[.string ⟨#[]⟩,.bool false]) ⟨(GN.alloc _).drew,GO⟩ (fun g3 hV=>?_);have bH:=ai (H.1.ch hV.1 fun _ _ h=>h) (H.2.trans (hV.1.mono fun _ h=>h.elim));have jg:wr.heap.size≤wr.heap.size:=H.2.size;have hC:=ae hV.2;clear hV;refine aR ?_ ?_
        ·
         refine dU ?_;refine aO (fun V=>Ext g3 V∧ag V g3.heap.size 5 #[.int .u8 bv]) ⟨GN.alloc _,GO⟩ (fun jp hV=>?_);have hy:=ai (bH.1.ch hV.1 fun _ _ h=>h) (bH.2.trans (hV.1.mono fun _ h=>h.elim));have jh:wr.heap.size≤g3.heap.size:=bH.2.size;have hg:=ae hV.2;have iu:=ae (hC.al hV.1);clear hV;obtain⟨e0,bl,a5⟩:=hg.two;refine bx (v:=?_) rfl (by rfl) (fun V hV=>?_) ?_;rotate_left
         ·have bJ:=c6 V (g3.heap.size) bv ((hV.cell a5 ad).trans (e0 0))
          (go_simp<;>with_reducible rfl)
         try simp only[PU]
         clear e0 bl a5;refine tf ?_;refine ak ?_;refine az rfl (fun K hK=>?_) rfl;go_simp;refine(aN _ (S.heap.size+1) A n c l 3 (hy.1.ch (M:=fun _=>False) GN (fun _ _ h=>h)) ad ad).mono ?_;rintro e jq ⟨cr,rfl,aV,O,h,he⟩;obtain⟨j,rfl⟩:=Gg aV;have ba:j<3:=ad;have t:Fr (fun b=>b=S.heap.size+1) jp jq:=he.fr;have hz:=ai h (hy.2.trans t);have iU:=ae (hg.on t ad);have iv:=ae (iu.on t ad);refine hK _ _ (he.fr) ?_;clear hK K
         try simp only[PU]
         clear h he t aV O
         iterate 2 refine tf ?_
         have av:=And.intro hz.1 (And.intro hz.2 (And.intro iv.o (And.intro (show X≤wr.heap.size by omega) ba)));revert av;generalize g3.heap.size=a1;exact o3
        ·
         refine az rfl (fun K hK=>?_) rfl;go_simp;refine(aN _ (S.heap.size+1) A n c l 3 (bH.1.ch (M:=fun _=>False) GN (fun _ _ h=>h)) ad ad).mono ?_;rintro e g4 ⟨cr,rfl,aV,O,h,he⟩;obtain⟨j,rfl⟩:=Gg aV;have ba:j<3:=ad;have t:Fr (fun b=>b=S.heap.size+1) g3 g4:=he.fr;have f5:=ai h (bH.2.trans t);have iw:=ae (hC.on t ad);refine hK _ _ (he.fr) ?_;clear hK K
         try simp only[PU]
         clear h he t aV O;refine tf ?_;refine ak ?_;refine dU ?_;refine aO (fun V=>Ext g4 V∧ag V g4.heap.size 5 #[.int .u8 bv]) ⟨GN.alloc _,GO⟩ (fun jG hV=>?_);have hA:=ai (f5.1.ch hV.1 fun _ _ h=>h) (f5.2.trans (hV.1.mono fun _ h=>h.elim));have ji:wr.heap.size≤g4.heap.size:=f5.2.size;have h8:=ae hV.2;have ix:=ae (iw.al hV.1);clear hV;obtain⟨e0,bl,a5⟩:=h8.two;refine bx (v:=?_) rfl (by rfl) (fun V hV=>?_) ?_;rotate_left
         ·have bJ:=c6 V (g4.heap.size) bv ((hV.cell a5 ad).trans (e0 0))
          (go_simp<;>with_reducible rfl)
         try simp only[PU]
         clear e0 bl a5
         iterate 2 refine tf ?_
         have av:=And.intro hA.1 (And.intro hA.2 (And.intro ix.o (And.intro (show X≤wr.heap.size by omega) ba)));revert av;generalize g4.heap.size=a1;exact o3
      case hN=>
       exact CY
     ·have T:(¬0<m)∨((0<m)∧¬0<i):=by
       exact wD
      exact xY
  ·have gH:¬(i:Int)≤(N:Int):=ad;go_upto_region 32 with(fail);have ce:=hS.o _ _ (by assumption) (by assumption);unfold BI at ce;exact ce I A n c l ar MA mn mc M GA gn gc G o u FA i fc F cu ad b9.o
 ):p:=h
end zL
open zL in
theorem FK(S:World)(gW:Value)(Q:Exit→Act→World→Prop)(hQ0:∀c a d v w,Q (.panic c) (a.put d v) w→Q (.panic c) a w)
  (aA:∀bI bq,(∀a ab,Code.wp prog (l3 32) (Exit.then bq Q) a ab→bI a ab)→(∀a ab,Code.wp prog (DF 42) Q a ab→bq a ab)→BI S gW (Exit.then bq Q) bI)
  (K:Act→World→Prop) (hK:∀a ab,Code.wp prog (l3 19) Q a ab→K a ab):BH S gW Q K:=by
 unfold BH;intro jr A n c l ar MA mn mc M GA gn gc G o u hZ h0 gE gM u8 gG eO gi gj b8 bi g u16 s bG eP eQ eR eS eT eU eV eW eX eY eZ e3 e4 u32 e5 e6 e7 e8 e9 fa fb fd fe ff fh fi fj fk fl fm fo fp fq fr fs ft fu fv fw fx fy fz fA fB fC u64 fD fF fG fH fI fJ fK fL fM fN fO fP fQ fR fS fT fU fV fW fX fY fZ f0 f1 f2 f3 f6 f7 f8 f9 ga gb gd ge gf am aE aL aP a3 a4 a6 a7 bg bh bk bp br bs bt bz bC bL bY b0 b6 b7 ca cg ci cn cq ct cv cw cx cz cB cC cD cE cF cG cH cI cJ cK cL cM cN cO cP cQ cR cS cT cU cV cX cY cZ c5 c7 c8 c9 da db dc dd de df dg dh dj dk dl dm dn dp dq ds dt du dv dx dy dz dB dC dD dE dF dG dH dI dJ dK dL dM dO dP dQ dR dT dV dW dX dY dZ d0 d1 d2 d3 d4 d5 d6 d7 d9 ea eb ec ed ee ef eg ei ek el em en eo ep eq er es et eu ev ew ex ey ez eA eB eC eD eE eF eG eH eI eJ eK eM bu go gp gq gr gs gt gu gv gw gx gA gB gC gD w U;have gF:=ae U.FK;exact xG
theorem oT.ko(aM:pO G)(cc:G.length≤2)(hm:lM M)(aC:1≤M.length∧M.length≤4)(aw:∀i f,F[i]?=some f→f.name=hv i∧(∃n,n≤2∧f.params.map (·.1)=dS n)∧(i=0→f.params=[]))(b2:1≤F.length∧F.length≤4):fH ⟨G,M,F⟩:=
 ⟨cc,aC,b2,aM,hm,aw⟩
theorem Bd(aw:F[i]?=some f)(b:aj):(F.set i {f with body:=b}).map (fun f=>(f.name,f.params))=F.map fun f=>(f.name,f.params):=by
 exact Dp
theorem vJ(aw:F[i]?=some f)(b:aj):(F.set i {f with body:=b}).map (·.name)=F.map (·.name):=by
 exact Dp
structure r3(G:List (ByteArray×Int))(M:List bF)(F:List aG)(k L:Nat):Prop where
 ko:∀i f,F[i]?=some f→f.name=hv i∧(∃n,n≤2∧f.params.map (·.1)=dS n)∧(i=0→f.params=[])
 made:∀i f,F[i]?=some f→i<k→ej (gL ⟨G,M,F⟩ f) 2 (eD ⟨G,M,F⟩++cc f.params) (a5 ⟨G,M,F⟩++f.params.map (·.1)) f.body
 bu:∀i f,F[i]?=some f→k≤i→f.body=.nil
 num:(F.map fun f=>f.body.num).sum+2*L≤48
theorem oT.start(h:oT F):r3 G M F 0 24:=by
 refine⟨fun i f aw=>⟨(h i f aw).1,(h i f aw).2.1,(h i f aw).2.2.1⟩,fun i f _ aJ=>ad,fun i f aw _=>(h i f aw).2.2.2,?_⟩;have h0:(F.map fun f=>f.body.num).sum=0:=by
  have ac:F.map (fun f=>f.body.num)=F.map fun _=>0:=List.map_congr_left fun f aw=>by
   obtain⟨i,aJ⟩:=List.getElem?_of_mem aw;rw[(h i f aJ).2.2.2];rfl
  rw[ac];clear ac h
  induction F with
  | nil=>rfl
  | cons f F aa=>simpa using aa
 omega
theorem CA{b:aj}:∀{i:Nat} {f:aG},F[i]?=some f→f.body=.nil→((F.set i {f with body:=b}).map fun f=>f.body.num).sum=(F.map fun f=>f.body.num).sum+b.num:=by
 induction F with
 | nil=>intro i f aw;simp at aw
 | cons g F aa=>
  intro i f aw hn
  cases i with
  | zero=>
   simp at aw;subst aw;simp[hn,aj.num]
   omega
  | succ i=>
   simp at aw;have:=aa (i:=i) aw hn;simp only[List.set_cons_succ,Gh,List.sum_cons,this];omega
theorem r3.next{k L R:Nat}(h:r3 G M F k L)(aw:F[k]?=some f){ls:List ay}(hm:Made (gL ⟨G,M,F⟩ f) 2 (eD ⟨G,M,F⟩++cc f.params) (a5 ⟨G,M,F⟩++f.params.map (·.1)) L R ls):
  r3 G M (F.set k {f with body:=.ef ls}) (k+1) R:=by
 have hs:=Bd aw (.ef ls);have hn:=vJ aw (.ef ls);have ao:=(List.getElem?_eq_some_iff.1 aw).1;have bR:∀g,gL ⟨G,M,F.set k {f with body:=.ef ls}⟩ g=gL ⟨G,M,F⟩ g:=fun g=>by simp only[gL,sigs,hs]
 have aR:a5 ⟨G,M,F.set k {f with body:=.ef ls}⟩=a5 ⟨G,M,F⟩:=by simp only[a5,eD,hn]
 have Q:∀i g,(F.set k {f with body:=.ef ls})[i]?=some g→(i=k∧g={f with body:=.ef ls})∨(i≠k∧F[i]?=some g):=fun i g aM=>by
  by_cases aJ:k=i
  ·subst aJ;rw[List.getElem?_set_self ao] at aM;injection aM with aM;exact .inl ⟨rfl,aM.symm⟩
  ·rw[List.getElem?_set_ne aJ] at aM;exact .inr ⟨fun h=>aJ h.symm,aM⟩
 refine⟨fun i g aM=>?_,fun i g aM aJ=>?_,fun i g aM aJ=>?_,?_⟩
 ·rcases Q i g aM with⟨rfl,rfl⟩|⟨_,J⟩
  ·exact h.ko _ f aw
  ·exact h.ko _ _ J
 ·rw[bR,aR];rcases Q i g aM with⟨rfl,rfl⟩|⟨ac,J⟩
  ·exact hm.wf
  ·exact h.made i g J ad
 ·rcases Q i g aM with⟨rfl,rfl⟩|⟨ac,J⟩
  ·omega
  ·exact h.bu i g J ad
 ·rw[CA aw (h.bu k f aw (Gb _))];have ac:=hm.num;have J:=hm.le;have aS:=h.num;omega
theorem r3.wf{G:List (ByteArray×Int)}{M:List bF}{F:List aG}{L:Nat}(h:r3 G M F F.length L)(aM:pO G)(cc:G.length≤2)(hm:lM M)(aC:1≤M.length∧M.length≤4)(b2:1≤F.length∧F.length≤4):mU ⟨G,M,F⟩:=by
 refine(oT.ko aM cc hm aC h.ko b2).wf (fun f aw=>?_) (by have:=h.num;simp only;omega);obtain⟨i,aJ⟩:=List.getElem?_of_mem aw;have ao:=(List.getElem?_eq_some_iff.1 aJ).1;exact cP _ 2 4 _ _ _ _ (fun _ h=>h) (fun _ _ h=>h) ad (h.made i f aJ ao)
end Go.Proofs.YtjhgbdckgkppnaaGreat
