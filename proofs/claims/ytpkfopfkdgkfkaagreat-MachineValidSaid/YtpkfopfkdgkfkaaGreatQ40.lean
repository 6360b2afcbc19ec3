/- Part 40 of the proof. No condition of its own. -/
import Derived.Test.YtpkfopfkdgkfkaaGreatQ32
import Derived.Test.YtpkfopfkdgkfkaaGreatQ39
namespace Go.Proofs.YtpkfopfkdgkfkaaGreat
open Go.RowKit Go.Proofs.Tryz
set_option maxRecDepth 1000000
set_option maxHeartbeats 25600000
set_option linter.unusedVariables false
variable{k:Nat}
def Jl(s:ak):Prop:=s.threads.length<=9223372036854775807/\∀t∈s.threads,t.length<=9223372036854775807/\∀f∈t,f.an.length<=9223372036854775807
abbrev H3(bU ar:World)(aA bA am nl a9:Nat)(L:List al):Prop:=Sl ar (λb=>b<ar.heap.size/\b≠aA/\b≠bA) (some ⟨am,0,none⟩) nl (L.map dh)/\nl<=a9/\Fr (λb=>b=am) bU ar/\L.length<=1000000/\∀f∈L,f.an.length<=1000000
abbrev J1(Y V:World)(bA:Nat)(q:SV)(s2:ak):Prop:=Fr (λb=>b=bA) Y V/\q.Is V (λb=>b<V.heap.size/\b≠bA) s2/\au V bA 26 #[.slice q.GA q.gn q.gc,.slice q.TA q.tn q.tc,.slice q.HA q.hn q.hc,.int .i64 s2.fault]/\Jl s2
theorem EY(u:aA)(s:ak)(p:UV)(q:SV)(w:World)(hU:tD u)(aL:Jl s)(hu:p.Ok w u)(hs:q.Ok w s):Calls prog 6 #[.agg (p.val u),.agg (q.val s)] w (h4 w (ki u s)):=
 wM u s p q w hU.ok.wK hu hs hU.eD.1 hU.eD.2 (by have ac:=hs.at_.h.1;have ap:=aL.1;simp only[LO] at ac;omega) aL.2
theorem Fi(u:aA)(s:ak)(p:UV)(q:SV)(w:World)(hU:tD u)(aL:Jl s)(hu:p.Ok w u)(hs:q.Ok w s):Calls prog 7 #[.agg (p.val u),.agg (q.val s)] w (h4 w (ki u s)):=
 IM u s p q w hU.ok.wK hu hs hU.eD.1 hU.eD.2 (by have ac:=hs.at_.h.1;have ap:=aL.1;simp only[LO] at ac;omega) aL.2
theorem dR.stored{w:World}{e:TypeId}{z g n c:Nat}{Q:Nat->Prop}{l:List D}(h:dR w e z Q g n c l){j:Nat}(aj:k<n)(bd:j<z)(v:Value):(w.setCell ⟨g,k*z+j,none⟩ v).cell? ⟨g,k*z+j,none⟩=some v:=by
 obtain⟨xs,bn,_⟩:=h.ex;obtain⟨ag,bG,_,_,_,_,L⟩:=bn.block h.pos;injection bG with bG;injection bG with bG;subst bG;have f:k*z+j<n*z:=by
  have:(k+1)*z<=n*z:=Nat.mul_le_mul_right _ aj;rw[Nat.succ_mul] at this;omega
 have cn:=L (k*z+j) v f;obtain⟨g2,Z,_,_,cb,_,_⟩:=cn.block h.pos;injection Z with Z;injection Z with Z;subst Z;exact cb _ _ (List.getElem?_set_self (by rw[bn.row.1];exact f))
namespace DO
end DO
open DO in
theorem nD(A B:Mt)(n c m d:Nat)(l bg:List Int)(raw:ak)(qr:SV)(eM at_ bA:Int)(w:World)(h:cw (EF cO) 1 w w.heap.size A n l)(hp:cw (EF cO) 1 w w.heap.size B m bg)(a5:qr.Ok w raw)(aL:Jl raw)(hc:n<=c) :
  Calls prog 3 #[.slice A n c,.slice B m d,.agg (qr.val raw),eM,at_,bA] w λe ab=>e=.returned true/\Below w w ab:=by
 obtain⟨cM,bI,rc,fj,di,rd,fB,fN,ec⟩:=qr;have H:=bF h hp a5 aL;clear h hp a5 aL;dsimp only[SV.val];go_enter func3,ntmps3;go_upto_region 1 with(fail);generalize eG:World.alloc _ _=fO;have a2:=aU eG;have bN:=aI eG;have bn:=az a2 bN (H.1.cZ a2.ext a2.size);clear eG a2 bN;go_wp2_with(fail);refine(FE A n c l fO bn.2.2 hc).mono ?_;rintro e aS ⟨u,bq,em,dH,en,b4,fC,hs,c5,dv,dt,dA,ek,d0,d1,d2,d3,d4,d5,GA,gn,gc,MA,mn,mc,PA,pn,pc,rfl,hU,_,_,_,aX,aO⟩;have fd:(⟨GA,gn,gc,MA,mn,mc,PA,pn,pc⟩:UV).Ok aS u:=JV aX λb O=>O.2;have dp:=bn.2.1.lt;have cq:=aO.size;have H1:=az hU fd aO;clear hU fd aO aX;go_upto_region 2 with(fail);generalize hX:World.alloc _ _=X;have bu:=lD hX;have bp:=h6 hX;have bm:=(bn.1.trans H1.2.2).trans bu;have aN:=cL (H1.2.1.on bu) bm bp (H.2.1.cZ bm.ext bm.size) (bn.2.1.aj (H1.2.2.trans bu));have dr:=bp.lt;obtain⟨ci,bO,b5⟩:=bp.two;have bv:=ae bu;clear hX bu bp bm;go_wp2_with(fail);refine(wJ u (⟨GA,gn,gc,MA,mn,mc,PA,pn,pc⟩:UV) B m d bg X H1.1 aN.1 aN.2.2.2.1).mono ?_;rintro e aT ⟨⟨bV,bW,bD,TA,tn,tc,HA,hn,cb⟩,rfl,bK,aW⟩;have ca:=GV u H1.1 bg;generalize jr u (dT u) (b3 bg 60)=S at *;have b1:=ca.small H1.1.ok ad;have nv:hn=S.threads.length:=by have:=bK.at_.h.1;simpa using this.symm
 have fo:1<=hn:=by have:=ca.vk;omega
 have fR:hn<=32:=by have:=ca.vk;omega
 have bS:=aW.size;have bc:=cL bK aW ca b1 nv;clear bK aW ci bO b5 ca b1 nv;dsimp only[SV.val];go_upto_region 3 with(fail);generalize co:World.alloc _ _=Y;have bG:=aU co;have bH:=aI co;have cZ:=bc.2.1.trans bG;have e8:(⟨bV,bW,bD,TA,tn,tc,HA,hn,cb⟩:SV).Is Y (λb=>X.heap.size<=b/\b<aT.heap.size) S:=bc.1.ai λb O=>bG.block b O.2 λh=>h;have bC:=bF (aN.1.on cZ) e8 (aN.2.1.trans cZ) (H.2.2.1.on (aN.2.1.trans cZ));have b9:=az (aN.2.2.1.aj cZ) bH (aN.2.2.2.2.aj cZ);have fb:=bH.lt;obtain⟨ci,bO,b5⟩:=b9.1.two;obtain⟨cK,aG,aK⟩:=b9.2.1.two;obtain⟨bl,aD,aP⟩:=b9.2.2.two;have b2:=ae bG;clear co bG bH cZ e8;have fA:Jl S:=by
  have h:=bc.2.2.2.1;refine⟨by have:=bc.2.2.2.2;omega,λt ht=>⟨by have:=(h.f t ht).1;omega,λf J=>by have:=(h.f t ht).2 f J;omega⟩⟩
 have eB:=λV (bE:Ext Y V)=>EY u raw (⟨GA,gn,gc,MA,mn,mc,PA,pn,pc⟩:UV) (⟨cM,bI,rc,fj,di,rd,fB,fN,ec⟩:SV) V H1.1 H.2.2.2 (bC.1.on bE) (bC.2.2.2.on bE);have eC:=λV (bE:Ext Y V)=>Fi u raw (⟨GA,gn,gc,MA,mn,mc,PA,pn,pc⟩:UV) (⟨cM,bI,rc,fj,di,rd,fB,fN,ec⟩:SV) V H1.1 H.2.2.2 (bC.1.on bE) (bC.2.2.2.on bE);have eD:=λV (bE:Ext Y V)=>y3 u S 60 (⟨GA,gn,gc,MA,mn,mc,PA,pn,pc⟩:UV) (⟨bV,bW,bD,TA,tn,tc,HA,hn,cb⟩:SV) V H1.1 bc.2.2.1 ad (bC.1.on bE) ((bC.2.1.ok λb O=>(show b<Y.heap.size by omega)).on bE);have da:=az eB eC eD;clear eB eC eD fA;go_upto_region 3 with(fail);refine eJ (λ_=>False) [(0,0),(1,0),(3,0),(4,0),(2,1),(5,1),(6,3),(7,3),(8,0),(9,0),(10,1),(11,3),(12,3)] ?_
 iterate 4 refine ph ?_
 refine aB rfl (λK hK=>?_);go_simp;refine(da.1 Y.drew Mo.drew).mono ?_;rintro e b7 ⟨v1,rfl,dy,a7⟩;have cd:=ae (Fr.aG a7);refine dq hK (a7) ?_;clear hK K;clear a7 ci bO b5 bl aD aP;refine aB rfl (λK hK=>?_);go_simp;refine(da.2.1 b7 cd.o).mono ?_;rintro e cS ⟨v2,rfl,dG,bd⟩;have fe:v1=v2:=Bool.eq_iff_iff.2 (dy.trans dG.symm);subst fe;have cj:=ae (cd.trans bd);refine dq hK (bd) ?_;clear hK K;clear bd dy dG;have fU:(v1 != v1)=false:=by cases v1<;>rfl
 clear cK aG aK;obtain⟨ci,bO,b5⟩:=(b9.1.aj cj.o).two;obtain⟨cK,aG,aK⟩:=(b9.2.1.aj cj.o).two
 iterate 2 refine pf ?_
 refine bJ (v:=?_) rfl (by rfl) (λV hV=>?_) ?_;rotate_left
 ·(first|obtain⟨hVc,hVf⟩:=Fr.qO hV|obtain⟨hVc,hVf⟩:=Fr.two hV)
  (go_simp<;>with_reducible rfl)
 try simp only[PU]
 refine bJ (v:=?_) rfl (by rfl) (λV hV=>?_) ?_;rotate_left
 ·(first|obtain⟨hVc,hVf⟩:=Fr.qO hV|obtain⟨hVc,hVf⟩:=Fr.two hV)
  (go_simp<;>with_reducible rfl)
 try simp only[PU]
 refine aB rfl (λK hK=>?_);go_simp;refine(da.2.2 cS cj.o).mono ?_;rintro e c6 ⟨rfl,bP⟩;have aa:=ae (cj.trans bP);refine dq hK (bP) ?_;clear hK K;clear bP ci bO b5 cK aG aK
 iterate 2 refine pf ?_
 refine aF ?_;obtain⟨cK,aG,aK⟩:=(b9.2.1.aj aa.o).two;have cB:Sl c6 (λb=>X.heap.size<=b/\b<aT.heap.size) HA hn (S.threads.map fI):=bC.2.1.at_.h.ai λb O=>aa.block b ad λh=>h;obtain⟨xs,cm,ck⟩:=cB.src (z:=1) (λd hd=>by obtain⟨t,_,rfl⟩:=Mf.1 hd;rfl);have lH:HA=none->hn=0:=λh=>by subst h;exact cB.none_
 have du:=az cm ck lH;have fg:=aa.size;clear cm ck lH cB;go_upto_region 6 with(at_builtin;refine db _ pE (by rfl) (.tmp 43) (.tmp 45) (by rfl) (by rfl) _ _ _ _ (by rfl) du.2.1 ad ad du.2.2 ?_;intro fZ bi cV ao dU;have dm:=ag ao dU;clear cK aG aK;obtain⟨cK,aG,aK⟩:=(b9.2.1.aj (aa.trans (Fr.of dU))).two;clear ao dU);have be:Ext c6 cV:=Fr.of dm.2;obtain⟨aA,fq,fT,e5,fL,eV⟩:=dR.of dm.1 (D.bG (λb O=>be.block b ad λh=>h) _ _ du.1) (by rw[LO];exact bc.2.2.2.2.symm) (λd hd=>by obtain⟨t,_,rfl⟩:=Mf.1 hd;rfl) ad;subst fq;have dj:=be.size;generalize cG:World.setCell _ _ _=Z;obtain⟨bs,bf⟩:=jG 2 [.slice (some ⟨aA,0,none⟩) hn bi] (b9.2.1.aj (aa.trans be)) cG;have bs:au Z aT 26 #[.slice bV bW bD,.slice TA tn tc,.slice (some ⟨aA,0,none⟩) hn bi,.int .i64 S.fault]:=bs;have et:Fr (λb=>b=aT.heap.size) Y Z:=((aa.trans be).mono λ_ h=>h.elim).trans bf;have bZ:dR Z 46 1 (λb=>X.heap.size<=b/\b<aT.heap.size) aA hn bi (S.threads.map fI):=eV.ai (bf.block aA e5 ad) λb O=>bf.block b ad ad;have ev:=bf.size;have dK:(⟨bV,bW,bD,TA,tn,tc,some ⟨aA,0,none⟩,hn,bi⟩:SV).Ok Z S:=
  ⟨⟨(bC.2.1.at_.g.ai λb O=>et.block b ad ad).mono λb O=>(show b<Z.heap.size by omega),(bC.2.1.at_.t.ai λb O=>et.block b ad ad).mono λb O=>(show b<Z.heap.size by omega),bZ.sl (λb O=>(show b<Z.heap.size by omega)) (show aA<Z.heap.size by omega)⟩,bC.2.1.gc,bC.2.1.tc,bZ.cap⟩
 have bk:=bF et bs bZ dK;clear cG bf bs et bZ dK eV dm be cK aG aK du;obtain⟨cK,aG,aK⟩:=bk.2.1.two;go_wp2_with(fail);refine(xl ⟨bV,bW,bD,TA,tn,tc,some ⟨aA,0,none⟩,hn,bi⟩ S at_ Z bk.2.2.2 fo (by show hn<=1000000;omega)).mono ?_;rintro e gT ⟨rfl,br⟩;simp only;have fw:=dx (x:=at_) (n:=hn) ad;generalize within at_ hn=t2 at *;obtain⟨el,rfl⟩:∃el:Nat,t2=el:=⟨t2.toNat,ad⟩
 have dB:el<hn:=ad;clear fw;have eX:Fr (λb=>b=aT.heap.size) Y gT:=bk.1.trans (br.mono λ_ h=>h.elim);have es:dR gT 46 1 (λb=>X.heap.size<=b/\b<aT.heap.size) aA hn bi (S.threads.map fI):=bk.2.2.1.ai (br.block aA ad λh=>h) λb O=>br.block b ad λh=>h;have eI:=br.size;have eb:=bk.2.1.aj br;clear cK aG aK;obtain⟨cK,aG,aK⟩:=eb.two;obtain⟨ch,aZ⟩:∃ch,S.threads[el]?=some ch:=⟨S.threads[el]'(ay bc.2.2.2.2),List.getElem?_eq_getElem _⟩
 obtain⟨cs,dw,bh,a4⟩:=es.cells (k:=el) (d:=fI ch) (by rw[List.getElem?_map,aZ];rfl);obtain⟨FA,R,fc,rfl,aJ,cI⟩:=dn.1 dw;have c0:gT.cell? ⟨aA,el,none⟩=some (.slice FA R fc):=by have:=a4 0 _ rfl;simpa using this
 obtain⟨b0,bR,c4⟩:=cI.src (z:=4) (λd hd=>by obtain⟨t,_,rfl⟩:=Mf.1 hd;rfl);have bj:FA=none->R=0:=λh=>by subst h;exact cI.none_
 have cY:R=ch.length:=by have:=cI.1;simpa using this.symm
 have cy:ch.length<=1000000:=by have:=(bc.2.2.2.1.f ch (LN aZ)).1;omega
 have eA:=es.lt.1;have aE:=tI eX eb es aZ cI bR c4 bj cY;clear br bk eX eb es aZ cI bR c4 bj dw bh a4;have fD:R<=1000000:=ad;clear cY cy;go_upto_region 8 with(at_builtin;refine db _ tN (by rfl) (.tmp 51) (.tmp 57) (by rfl) (by rfl) _ _ _ _ (by rfl) aE.2.2.2.2.2.2.1 ad ad aE.2.2.2.2.2.2.2.1 ?_;intro fY a9 bU ao eY;have ds:=ag ao eY;clear ao eY);have cv:Ext gT bU:=Fr.of ds.2;have eO:=cv.size;clear cK aG aK c0;by_cases av:R=0
 case' pos=>
  have bB:¬(R:Int) > 0:=ad;obtain⟨V,hV⟩:∃V,V=bU:=⟨_,rfl⟩
  rw[<-hV];have bo:Ext gT V:=by rw[hV];exact cv
  have e9:=bo.size;have bL:dR V 46 1 (λb=>X.heap.size<=b/\b<aT.heap.size) aA hn bi (S.threads.map fI):=aE.2.2.1.ai (bo.block aA eA λh=>h) λb O=>bo.block b ad λh=>h;obtain⟨s2,dM⟩:∃s2,s2=S:=⟨_,rfl⟩
  have cc:Mw (J1 Y V aT ⟨bV,bW,bD,TA,tn,tc,some ⟨aA,0,none⟩,hn,bi⟩ s2):=by
   rw[dM];have dQ:=aE.1.trans (bo.mono λ_ h=>h.elim);refine ae ⟨dQ,⟨⟨(bC.2.1.at_.g.ai λb O=>dQ.block b ad ad).mono λb O=>ad,(bC.2.1.at_.t.ai λb O=>dQ.block b ad ad).mono λb O=>ad,bL.sl (λb O=>ad) ad⟩,bC.2.1.gc,bC.2.1.tc,bL.cap⟩,aE.2.1.aj bo,?_⟩;have h:=bc.2.2.2.1;exact⟨by have:=bc.2.2.2.2;omega,λt ht=>⟨by have:=(h.f t ht).1;omega,λf J=>by have:=(h.f t ht).2 f J;omega⟩⟩
  clear dM bL bo cv aE ds hV av;go_upto_region 26 with(fail)
 case' neg=>
  have dY:0<R:=ad;have bB:(R:Int) > 0:=ad;obtain⟨am,fp,eH,dz,d9,eT⟩:=dR.of ds.1 (D.bG (λb O=>cv.block b ad λh=>h) _ _ aE.2.2.2.2.2.1) (by rw[LO];exact aE.2.2.2.2.2.2.2.2.symm) (λd hd=>by obtain⟨t,_,rfl⟩:=Mf.1 hd;rfl) dY;subst fp;have ct:=ae eT;clear eT ds;go_wp2_with(fail);refine(dV _ R ad ad _).mono ?_;rintro e ab ⟨rfl,rfl⟩;generalize cu:within _ (R:Int)=bY at *;have fx:0<=bY/\bY<(R:Int):=cu▸dx ad;clear cu;obtain⟨k,rfl⟩:∃k:Nat,bY=k:=⟨bY.toNat,ad⟩
  have fr:k<R:=ad;clear fx;obtain⟨f,eu⟩:∃f,ch[k]?=some f:=⟨ch[k]'(ay aE.2.2.2.2.2.2.2.2),List.getElem?_eq_getElem _⟩
  obtain⟨cs,dw,bh,a4⟩:=ct.cells (k:=k) (d:=dh f) (by rw[List.getElem?_map,eu];rfl);obtain⟨IA,il,ic,bw,y,lc,rfl,cH,cx,aQ,ce⟩:=c7.1 dw;have e0:bU.cell? ⟨am,k*4,none⟩=some (.int .i64 f.proc):=by have:=a4 0 _ rfl;simpa using this
  have e1:bU.cell? ⟨am,k*4+1,none⟩=some (.int .i64 f.pc):=a4 1 _ rfl;have e2:bU.cell? ⟨am,k*4+2,none⟩=some (.slice IA il ic):=a4 2 _ rfl;have e3:bU.cell? ⟨am,k*4+3,none⟩=some (.slice bw y lc):=a4 3 _ rfl;have eQ:=ct.lt.2;have c9:il=f.ints.length:=by have:=aQ.1;simpa using this.symm
  have a3:y=f.an.length:=by have:=ce.1;simpa using this.symm
  have U:=(bc.2.2.2.1.f ch (LN aE.2.2.2.1)).2 f (LN eu);have e6:il<=100000:=ad;have fM:y<=100000:=ad;have ei:ch.length<=1000000/\∀f∈ch,f.an.length<=100000:=⟨by have:=(bc.2.2.2.1.f ch (LN aE.2.2.2.1)).1;omega,λf J=>by have:=(bc.2.2.2.1.f ch (LN aE.2.2.2.1)).2 f J;omega⟩
  have N:=px eu aQ ce c9 a3 ei cH cx;clear dw bh a4 eu aQ ce c9 a3 U ei cH cx;have ez:Fr (λb=>b=aT.heap.size) Y bU:=aE.1.trans (cv.mono λ_ h=>h.elim);have ef:=b9.1.on ez ad;have ee:=ag cv ef;clear cv ez;obtain⟨ci,bO,b5⟩:=ef.two;clear ef;go_wp2_with(fail);refine(dV eM 6 ad ad _).mono ?_;rintro e ab ⟨rfl,rfl⟩;have ft:=dx (x:=eM) (n:=6) ad;generalize within eM 6=v6 at *;have fz:v6=0\/v6=1\/v6=2\/v6=3\/v6=4\/v6=5:=ad;clear ft;have fJ:pn<=100000:=by have ac:=H1.1.eD.1;have ap:=aN.1.at_.p.1;rw[LO] at ap;have aV:u.procs.length=pn:=ap;omega
  rcases fz with rfl|rfl|rfl|rfl|rfl|rfl
  focus
   go_wp2_with(fail);refine(dV bA ((pn:Int)+2) ad ad _).mono ?_;rintro e ab ⟨rfl,rfl⟩;have dL:=dx (x:=bA) (n:=((pn:Int)+2)) ad;generalize within bA ((pn:Int)+2)=dc at *;go_upto_region 25 with(fail);have cC:IntKind.i64.wrap (dc - 1)=dc - 1:=IntWalk.i64_in _ ad
   try rw[cC]
   clear cC dL;generalize af:World.setCell _ _ _=ar;have r:=cp af;have dW:∀b,X.heap.size<=b/\b<aT.heap.size->ar.heap[b]?=bU.heap[b]?:=λb O=>r.block b ad ad;have a8:=r.size;have aj:dR ar 50 4 (λb=>b<ar.heap.size/\b≠aA/\b≠aT.heap.size/\b≠am) am R a9 ((ch.set k {f with proc:=dc - 1}).map dh):=ct.Jw (j:=0) N.1 ad (by rw[<-af];rfl) dW (λb O=>ad) λIA i ic bw y lc ac ap aV bz=>c7.2 ⟨IA,i,ic,bw,y,lc,rfl,ac,ap,aV,bz⟩;obtain⟨L,ah⟩:∃L,L=ch.set k {f with proc:=dc - 1}:=⟨_,rfl⟩
   have b6:Mw (H3 bU ar aA aT am R a9 L):=by
    exact DU
   obtain⟨nl,cg⟩:∃nl,nl=R:=⟨_,rfl⟩
   rw[<-cg] at b6 ⊢;clear ah cg aj dW r af ci bO b5 e0 e1 e2 e3 eQ
  rotate_left
  focus
   go_wp2_with(fail);refine(dV bA 12 ad ad _).mono ?_;rintro e ab ⟨rfl,rfl⟩;have dL:=dx (x:=bA) (n:=12) ad;generalize within bA 12=dc at *;go_upto_region 25 with(fail);have cC:IntKind.i64.wrap (dc - 1)=dc - 1:=IntWalk.i64_in _ ad
   try rw[cC]
   clear cC dL;generalize af:World.setCell _ _ _=ar;have r:=cp af;have dW:∀b,X.heap.size<=b/\b<aT.heap.size->ar.heap[b]?=bU.heap[b]?:=λb O=>r.block b ad ad;have a8:=r.size;have aj:dR ar 50 4 (λb=>b<ar.heap.size/\b≠aA/\b≠aT.heap.size/\b≠am) am R a9 ((ch.set k {f with pc:=dc - 1}).map dh):=ct.Jw (j:=1) N.1 ad (by rw[<-af]) dW (λb O=>ad) λIA i ic bw y lc ac ap aV bz=>c7.2 ⟨IA,i,ic,bw,y,lc,rfl,ac,ap,aV,bz⟩;obtain⟨L,ah⟩:∃L,L=ch.set k {f with pc:=dc - 1}:=⟨_,rfl⟩
   have b6:Mw (H3 bU ar aA aT am R a9 L):=by
    exact DU
   obtain⟨nl,cg⟩:∃nl,nl=R:=⟨_,rfl⟩
   rw[<-cg] at b6 ⊢;clear ah cg aj dW r af ci bO b5 e0 e1 e2 e3 eQ
  rotate_left
  focus
   have dr:Src bU 1 IA il (f.ints.map cW):=by
    have:=Src.jL ((N.2.1.mono (de:=aq bU) λb O=>(show b<bU.heap.size by omega)).ints) (gA _) (iO _) ad
    rwa [n9] at this
   have aH:IA=none->il=0:=λh=>by have ac:=N.2.1;rw[h] at ac;exact ac.none_
   have cR:=ag dr aH;clear dr aH;go_upto_region 25 with(first|(at_builtin;refine db _ cF (by rfl) (.tmp 98) (.tmp 103) (by rfl) (by rfl) _ _ _ _ (by rfl) cR.1 ad ad cR.2 ?_;intro cE cT gW a0 cf;have dd:=ag a0 cf;clear a0 cf)|(at_builtin;refine cN _ cF (by rfl) (.tmp 104) (.tmp 106) (by rfl) bU _ _ _ _ (by rfl) dd.1 (by rfl) (by rfl) (kR _ _) ad ad dd.2.size ?_;intro v1 cl aw dI dS;obtain⟨eP,ej,dy,dJ,_⟩:=bT aw;subst dy;have cn:Fr (λb=>(Value.slice cE il cT).ownBlock=some b) gW cl:=Mo.grown dI (λg aR=>.inl aR);have s:Ext bU cl:=Fr.low (M:=λb=>(Value.slice cE il cT).ownBlock=some b) (((Fr.of dd.2:Ext bU gW).mono λ_ h=>h.elim).trans cn) λb O=>(dd.1.lt b O).1;have g2:=(s.cell (j:=k*4+2) dz λh=>h).trans e2;have ba:=ct.ai (s.block am dz λh=>h) λb O=>s.block b ad λh=>h;have eq:=ba.lt.2;have ep:=ba.lt.1;have aY:=bF aw s ba dJ;clear aw dI dS cn s ba dJ));have f1:=aY.2.1.size;have d8:Sl cl (λb=>bU.heap.size<=b/\b<cl.heap.size) eP (il+1) ((f.ints++[bA]).map D.i):=Sl.mQ aY.1 (by have:=bX (w:=cl) (P:=λb=>bU.heap.size<=b/\b<cl.heap.size) (f.ints++[bA]);rw[LR (f:=cW)] at this;exact this) (by rw[LO,LM];have:=N.2.2.2.1;simp only[LZ,Ma];omega) λg _ ac ap=>⟨ac,ap⟩
   generalize af:World.setCell _ _ _=ar;have ai:=cp af;have r:Fr (λb=>b=am) bU ar:=(aY.2.1.mono λ_ h=>h.elim).trans ai;have a8:=ai.size;have aj:dR ar 50 4 (λb=>b<ar.heap.size/\b≠aA/\b≠aT.heap.size/\b≠am) am R a9 ((ch.set k {f with ints:=f.ints++[bA]}).map dh):=aY.2.2.1.Jw (j:=2) N.1 ad (by rw[<-af]) (λb O=>ai.block b ad ad) (λb O=>ad) λcD i2 cT df cX dg ac ap aV bz=>c7.2 ⟨eP,il+1,ej,df,cX,dg,rfl,aY.2.2.2,ap,(d8.ai λb O=>ai.block b O.2 ad).mono λb O=>⟨ad,ad,ad,ad⟩,bz⟩;obtain⟨L,ah⟩:∃L,L=ch.set k {f with ints:=f.ints++[bA]}:=⟨_,rfl⟩
   have b6:Mw (H3 bU ar aA aT am R a9 L):=by
    exact DU
   obtain⟨nl,cg⟩:∃nl,nl=R:=⟨_,rfl⟩
   rw[<-cg] at b6 ⊢;clear ah cg aj r ai d8 af ci bO b5 e0 e1 e2 e3 eQ g2 eq ep aY dd cR f1 a8
  rotate_left
  focus
   have dr:Src bU 1 bw y (f.an.map cW):=by
    have:=Src.jL ((N.2.2.1.mono (de:=aq bU) λb O=>(show b<bU.heap.size by omega)).ints) (gA _) (iO _) ad
    rwa [n9] at this
   have aH:bw=none->y=0:=λh=>by have ac:=N.2.2.1;rw[h] at ac;exact ac.none_
   have cR:=ag dr aH;clear dr aH;go_upto_region 25 with(first|(at_builtin;refine db _ cF (by rfl) (.tmp 114) (.tmp 119) (by rfl) (by rfl) _ _ _ _ (by rfl) cR.1 ad ad cR.2 ?_;intro cE cT gW a0 cf;have dd:=ag a0 cf;clear a0 cf)|(at_builtin;refine cN _ cF (by rfl) (.tmp 120) (.tmp 122) (by rfl) bU _ _ _ _ (by rfl) dd.1 (by rfl) (by rfl) (kR _ _) ad ad dd.2.size ?_;intro v1 cl aw dI dS;obtain⟨eP,ej,dy,dJ,_⟩:=bT aw;subst dy;have cn:Fr (λb=>(Value.slice cE y cT).ownBlock=some b) gW cl:=Mo.grown dI (λg aR=>.inl aR);have s:Ext bU cl:=Fr.low (M:=λb=>(Value.slice cE y cT).ownBlock=some b) (((Fr.of dd.2:Ext bU gW).mono λ_ h=>h.elim).trans cn) λb O=>(dd.1.lt b O).1;have g2:=(s.cell (j:=k*4+3) dz λh=>h).trans e3;have ba:=ct.ai (s.block am dz λh=>h) λb O=>s.block b ad λh=>h;have eq:=ba.lt.2;have ep:=ba.lt.1;have aY:=bF aw s ba dJ;clear aw dI dS cn s ba dJ));have f1:=aY.2.1.size;have d8:Sl cl (λb=>bU.heap.size<=b/\b<cl.heap.size) eP (y+1) ((f.an++[bA]).map D.i):=Sl.mQ aY.1 (by have:=bX (w:=cl) (P:=λb=>bU.heap.size<=b/\b<cl.heap.size) (f.an++[bA]);rw[LR (f:=cW)] at this;exact this) (by rw[LO,LM];have:=N.2.2.2.2.1;simp only[LZ,Ma];omega) λg _ ac ap=>⟨ac,ap⟩
   generalize af:World.setCell _ _ _=ar;have ai:=cp af;have r:Fr (λb=>b=am) bU ar:=(aY.2.1.mono λ_ h=>h.elim).trans ai;have a8:=ai.size;have aj:dR ar 50 4 (λb=>b<ar.heap.size/\b≠aA/\b≠aT.heap.size/\b≠am) am R a9 ((ch.set k {f with an:=f.an++[bA]}).map dh):=aY.2.2.1.Jw (j:=3) N.1 ad (by rw[<-af]) (λb O=>ai.block b ad ad) (λb O=>ad) λcD i2 cT df cX dg ac ap aV bz=>c7.2 ⟨cD,i2,cT,eP,y+1,ej,rfl,ac,aY.2.2.2,aV,(d8.ai λb O=>ai.block b O.2 ad).mono λb O=>⟨ad,ad,ad,ad⟩⟩;obtain⟨L,ah⟩:∃L,L=ch.set k {f with an:=f.an++[bA]}:=⟨_,rfl⟩
   have b6:Mw (H3 bU ar aA aT am R a9 L):=by
    rw[ah];exact ae ⟨aj.sl (λb O=>⟨O.1,O.2.1,O.2.2.1⟩) ⟨ad,ad,ad⟩,d9,r,by rw[List.length_set];exact N.2.2.2.2.2.1.1,λf2 aC=>by
     rcases List.mem_or_eq_of_mem_set aC with aC|aC
     .have:=N.2.2.2.2.2.1.2 f2 aC;omega
     .rw[aC];have:=N.2.2.2.2.1;show (f.an++[bA]).length<=1000000;rw[LM];simp only[LZ,Ma];omega⟩
   obtain⟨nl,cg⟩:∃nl,nl=R:=⟨_,rfl⟩
   rw[<-cg] at b6 ⊢;clear ah cg aj r ai d8 af ci bO b5 e0 e1 e2 e3 eQ g2 eq ep aY dd cR f1 a8
  rotate_left
  focus
   by_cases fi:y=0
   focus
    have eK:¬(y:Int) > 0:=ad;go_upto_region 25 with(fail);obtain⟨ar,af⟩:∃Z,Z=bU:=⟨_,rfl⟩
    rw[<-af];have r:Fr (λb=>b=am) bU ar:=by rw[af];exact Mo
    have aj:=ct.o;rw[<-af] at aj;have a8:=r.size;obtain⟨L,ah⟩:∃L,L=ch:=⟨_,rfl⟩
    have b6:Mw (H3 bU ar aA aT am R a9 L):=by
     rw[ah];exact ae ⟨aj.sl (λb O=>by refine⟨?_,?_,?_⟩<;>omega) ⟨ad,ad,ad⟩,d9,r,N.2.2.2.2.2.1.1,λf2 aC=>by have:=N.2.2.2.2.2.1.2 f2 aC;omega⟩
    obtain⟨nl,cg⟩:∃nl,nl=R:=⟨_,rfl⟩
    rw[<-cg] at b6 ⊢;clear ah cg aj r af ci bO b5 e0 e1 e2 e3 eQ a8 fi eK
   rotate_left
   focus
    have eK:(y:Int) > 0:=ad;have dr:Src bU 1 bw y (f.an.map cW):=by
     have:=Src.jL ((N.2.2.1.mono (de:=aq bU) λb O=>(show b<bU.heap.size by omega)).ints) (gA _) (iO _) ad
     rwa [n9] at this
    have aH:bw=none->y=0:=λh=>by have ac:=N.2.2.1;rw[h] at ac;exact ac.none_
    have cR:=ag dr aH;clear dr aH;go_upto_region 24 with(at_builtin;refine db _ cF (by rfl) (.tmp 138) (.tmp 143) (by rfl) (by rfl) _ _ _ _ (by rfl) cR.1 ad ad cR.2 ?_;intro cE cT gW a0 cf;have dl:Ext bU gW:=Fr.of cf;have cP:=(dl.cell (j:=k*4+3) dz λh=>h).trans e3;have er:=ct.ai (dl.block am dz λh=>h) λb O=>dl.block b ad λh=>h;have eq:=er.lt.2;have ep:=er.lt.1;have dd:=az a0 dl er;clear a0 cf dl er);obtain⟨ea,eE,fS,e4,bb,eU⟩:=dR.of (Q:=λ_=>False) (l:=f.an.map D.i) dd.1 (bX _) (by rw[LO];exact N.2.2.2.2.1.symm) (λd hd=>by obtain⟨t,_,rfl⟩:=Mf.1 hd;rfl) ad;subst eE;have eL:=dd.2.1.size;generalize dP:World.setCell _ _ _=dD;have bx:=cp dP;have fK:=bx.size;have c3:dD.cell? ⟨am,k*4+3,none⟩=some (.slice (some ⟨ea,0,none⟩) y cT):=dP▸dd.2.2.stored fr ad _;have eh:dD.heap[am]?=(gW.setCell ⟨am,k*4+3,none⟩ (.slice (some ⟨ea,0,none⟩) y cT)).heap[am]?:=by rw[<-dP]
    have aM:dR dD 3 1 (λ_=>False) ea y cT (f.an.map D.i):=eU.ai (bx.block ea e4 ad) λb O=>O.elim;have fs:=dx (x:=bA) (n:=y) ad;obtain⟨dO,e7⟩:∃dO:Nat,within bA y=dO:=⟨(within bA y).toNat,ad⟩
    have fh:∀fk,Calls prog 9 #[bA,y] fk λe ab=>e=.returned (.int .i64 (dO:Int))/\fk=ab:=λfk=>by rw[<-e7];exact dV bA y ad ad fk
    have ew:=ae fh;have fG:(dO:Int)<(y:Int):=ad;have fF:(0:Int)<=(dO:Int):=ad;have fH:dO<y:=ad;obtain⟨cs,dw,bh,a4⟩:=aM.cells (k:=dO) (d:=D.i (f.an[dO]'(ay N.2.2.2.2.1))) (by rw[List.getElem?_map,List.getElem?_eq_getElem (ay N.2.2.2.2.1)];rfl);obtain⟨fn,fy⟩:∃fn,dD.cell? ⟨ea,dO,none⟩=some fn:=by
     match cs,bh with
     | [x],_=>exact⟨x,by have:=a4 0 x rfl;simpa using this⟩
    have fW:=aM.lt.2;have fX:=aM.lt.1;have fQ:=bx.size;have eR:am<dD:=ad;have ed:=bF bx eh aM dd.2;have fE:am<ea:=ad;clear dP bx eh aM eU fs e7 fh dw bh a4 cP eq ep cR e0 e1 e2 e3 eQ;go_upto_region 24 with(fail);refine eJ (λ_=>False) [(0,3),(1,3),(2,3),(3,3),(4,0),(5,3),(6,3),(8,3),(9,3),(7,1),(10,1),(11,3),(12,3),(13,2)] ?_
    iterate 4 refine pf ?_
    refine ph ?_
    iterate 4 refine pf ?_
    refine aB rfl (λK hK=>?_);go_simp;refine(ew.o _).mono ?_;rintro e ab ⟨rfl,rfl⟩;refine dq hK Mo ?_;clear hK K;refine aB rfl (λK hK=>?_);go_simp;refine(dV _ 16 ad ad _).mono ?_;rintro e ab ⟨rfl,rfl⟩;generalize ff:within _ 16=dF;have fu:0<=dF/\dF<16:=ff▸dx ad;clear ff;refine dq hK Mo ?_;clear hK K
    iterate 2 refine pf ?_
    refine ax rfl (λK hK=>?_);go_simp;refine dX hK ?_;clear hK K;refine aF ?_
    have cC:IntKind.i64.wrap (dF - 1)=dF - 1:=IntWalk.i64_in _ ad
    try rw[cC]
    clear cC fu;go_upto_region 25 with(fail);generalize af:World.drew (World.setCell _ _ _)=ar;have ai:Fr (λb=>b=ea) dD ar:=af▸((Fr.refl (λb=>b=ea) dD).setCell (.inl rfl) _).drew;have dZ:Fr (λb=>b=am\/b=ea) gW ar:=(ed.1.mono λ_ h=>.inl h).trans (ai.mono λ_ h=>.inr h);have r:Fr (λb=>b=am) bU ar:=Fr.uo (M:=λb=>b=am\/b=ea) ((dd.2.1.mono λ_ h=>h.elim).trans dZ) λb O hm=>hm.elim id λh=>ad;have a8:=dZ.size;have bZ:dR ar 3 1 (λ_=>False) ea y cT ((f.an.map D.i).set dO (D.i (dF - 1))):=ed.2.2.1.KG (j:=0) (d:=D.i (f.an[dO]'(ay N.2.2.2.2.1))) (v:=.int .i64 (dF - 1)) (by rw[List.getElem?_map,List.getElem?_eq_getElem (ay N.2.2.2.2.1)];rfl) ad (by rw[<-af,Nat.mul_one,LW];first|done|rfl) (λb O=>O.elim) (λb O=>O) rfl λcs T=>by
     rw[mW.1 T];exact mW.2 rfl
    rw[<-List.map_set] at bZ;have eW:=bZ.sl (cJ:=(λb=>b<ar.heap.size/\b≠aA/\b≠aT.heap.size/\b≠am)) (λb O=>O.elim) ⟨ad,ad,ad,ad⟩;have aj:dR ar 50 4 (λb=>b<ar.heap.size/\b≠aA/\b≠aT.heap.size/\b≠am) am R a9 ((ch.set k {f with an:=f.an.set dO (dF - 1)}).map dh):=ed.2.2.2.2.Jw (j:=3) (v:=.slice (some ⟨ea,0,none⟩) y cT) N.1 ad ((ai.block am eR ad).trans ed.2.1) (λb O=>dZ.block b ad ad) (λb O=>ad) λcD i2 ej df cX dg ac ap aV bz=>c7.2 ⟨cD,i2,ej,some ⟨ea,0,none⟩,y,cT,rfl,ac,bb,aV,eW⟩;obtain⟨L,ah⟩:∃L,L=ch.set k {f with an:=f.an.set dO (dF - 1)}:=⟨_,rfl⟩
    have b6:Mw (H3 bU ar aA aT am R a9 L):=by
     rw[ah];exact ae ⟨aj.sl (λb O=>⟨O.1,O.2.1,O.2.2.1⟩) ⟨ad,ad,ad⟩,d9,r,by rw[List.length_set];exact N.2.2.2.2.2.1.1,λf2 aC=>by
      rcases List.mem_or_eq_of_mem_set aC with aC|aC
      .have:=N.2.2.2.2.2.1.2 f2 aC;omega
      .rw[aC];have:=N.2.2.2.2.1;show (f.an.set dO (dF - 1)).length<=1000000;rw[List.length_set];omega⟩
    obtain⟨nl,cg⟩:∃nl,nl=R:=⟨_,rfl⟩
    rw[<-cg] at b6 ⊢;clear ah cg aj r ai dZ bZ eW af ci bO b5 c3 fy fW ed dd ew eL a8 fi eK
  rotate_left 2
  focus
   go_upto_region 25 with(fail);obtain⟨ar,af⟩:∃Z,Z=bU:=⟨_,rfl⟩
   rw[<-af];have r:Fr (λb=>b=am) bU ar:=by rw[af];exact Mo
   have aj:=ct.take (m:=k) ad;rw[<-af,<-List.map_take] at aj;have a8:=r.size;obtain⟨L,ah⟩:∃L,L=ch.take k:=⟨_,rfl⟩
   have b6:Mw (H3 bU ar aA aT am k a9 L):=by
    rw[ah];exact ae ⟨aj.mono λb O=>by rcases O with O|O<;>(refine⟨?_,?_,?_⟩<;>omega),ad,r,by rw[List.length_take];have:=N.2.2.2.2.2.1.1;omega,λf2 aC=>by have:=N.2.2.2.2.2.1.2 f2 (List.mem_of_mem_take aC);omega⟩
   obtain⟨nl,cg⟩:∃nl,nl=k:=⟨_,rfl⟩
   rw[<-cg] at b6 ⊢;clear ah cg aj r af ci bO b5 e0 e1 e2 e3 eQ a8
  rotate_left
  all_goals
   have ey:Fr (λb=>b=aT.heap.size) Y ar:=Fr.uo (M:=λb=>b=aT.heap.size\/b=am) (Fr.trans ((aE.1.trans (ee.1.mono λ_ h=>h.elim)).mono λ_ h=>.inl h) (b6.2.2.1.mono λ_ h=>.inr h)) λb O hm=>hm.elim id λh=>ad;have d6:dR ar 46 1 (λb=>X.heap.size<=b/\b<aT.heap.size) aA hn bi (S.threads.map fI):=(aE.2.2.1.ai (ee.1.block aA eA λh=>h) λb O=>ee.1.block b ad λh=>h).ai (b6.2.2.1.block aA ad ad) λb O=>b6.2.2.1.block b ad ad;have eg:=(aE.2.1.aj ee.1).on b6.2.2.1 ad;obtain⟨cK,aG,aK⟩:=eg.two;obtain⟨cs,dw,_,a4⟩:=d6.cells (k:=el) (d:=fI ch) (by rw[List.getElem?_map,aE.2.2.2.1];rfl);obtain⟨hx,fl,hk,rfl,_,_⟩:=dn.1 dw;have c0:ar.cell? ⟨aA,el,none⟩=some (.slice hx fl hk):=by have:=a4 0 _ rfl;simpa using this
   have fP:=d6.lt.2;have ev:=b6.2.2.1.size;have eo:=az ey d6 eg;clear ey d6 eg dw a4;go_upto_region 26 with(fail);generalize hV:World.setCell _ _ _=V;have al:=cp hV;have e9:=al.size;have bL:=eo.2.1.vk (cJ:=λb=>b<V.heap.size/\b≠aA/\b≠aT.heap.size) dB hV (λb O=>ad) (λb O=>ad) b6.2.1 ((b6.1.ai λb O=>al.block b O.1 O.2.1).mono λb O=>⟨ad,O.2.1,O.2.2⟩);obtain⟨s2,dM⟩:∃s2,s2={S with threads:=S.threads.set el L}:=⟨_,rfl⟩
   have cc:Mw (J1 Y V aT ⟨bV,bW,bD,TA,tn,tc,some ⟨aA,0,none⟩,hn,bi⟩ s2):=by
    rw[dM];have dQ:Fr (λb=>b=aT.heap.size) Y V:=Fr.uo (M:=λb=>b=aT.heap.size\/b=aA) (Fr.trans (eo.1.mono λ_ h=>.inl h) (al.mono λ_ h=>.inr h)) λb O hm=>hm.elim id λh=>ad;refine ae ⟨dQ,⟨⟨(bC.2.1.at_.g.ai λb O=>dQ.block b ad ad).mono λb O=>ad,(bC.2.1.at_.t.ai λb O=>dQ.block b ad ad).mono λb O=>ad,bL.sl (λb O=>⟨O.1,O.2.2⟩) ⟨ad,ad⟩⟩,bC.2.1.gc,bC.2.1.tc,bL.cap⟩,eo.2.2.on al ad,?_⟩;have h:=bc.2.2.2.1;refine⟨by show (S.threads.set el L).length<=_;rw[List.length_set];have:=bc.2.2.2.2;omega,λt ht=>?_⟩;rcases List.mem_or_eq_of_mem_set ht with ht|ht
    .exact⟨by have:=(h.f t ht).1;omega,λf J=>by have:=(h.f t ht).2 f J;omega⟩
    .rw[ht];exact⟨by have:=b6.2.2.2.1;omega,λf J=>by have:=b6.2.2.2.2 f J;omega⟩
   clear dM bL al hV eo c0 fP cK aG aK b6 ct N ee aE
 all_goals as_aux_lemma=>
  have e9:=cc.1.size;have b8:=cc.2.2.1;obtain⟨cK,aG,aK⟩:=b8.two;clear b8;go_wp2_with(fail)
  focus
   refine(dV bA 7 ad ad _).mono ?_;rintro e ab ⟨rfl,rfl⟩;have fv:=dx (x:=bA) (n:=7) ad;generalize within bA 7=bt at *;go_upto_region 28 with(fail);have cC:IntKind.i64.wrap (bt - 1)=bt - 1:=IntWalk.i64_in _ ad
   try rw[cC]
   clear cC fv;generalize dE:World.setCell _ _ _=dk;obtain⟨bM,a6⟩:=jG 3 [.int .i64 (bt - 1)] cc.2.2.1 dE;obtain⟨dN,cQ⟩:∃dN,dN={s2 with fault:=bt - 1}:=⟨_,rfl⟩
   have fa:=a6.size;have cA:Mw (J1 Y dk aT ⟨bV,bW,bD,TA,tn,tc,some ⟨aA,0,none⟩,hn,bi⟩ dN):=by
    rw[cQ];have ac:=(cc.2.1.ai (ab:=dk) λb O=>a6.block b O.1 O.2).mono (de:=λb=>b<dk.heap.size/\b≠aT.heap.size) λb O=>⟨ad,O.2⟩
    exact ae ⟨cc.1.trans a6,⟨⟨ac.at_.g,ac.at_.t,ac.at_.h⟩,ac.gc,ac.tc,ac.hc⟩,bM,cc.2.2.2⟩
   clear cQ a6 bM dE cc cK aG aK
  rotate_left
  focus
   clear cK aG aK;generalize V=dk at *;generalize s2=dN at *;have cA:=cc;clear cc
  all_goals
   have fa:=cA.1.size;have c8:=b9.1.on cA.1 ad;have b8:=cA.2.2.1;obtain⟨ci,bO,b5⟩:=c8.two;obtain⟨cK,aG,aK⟩:=b8.two;have fV:=bC.2.2.1.size;have ex:Ext w dk:=Fr.low (M:=λb=>b=aT.heap.size) ((bC.2.2.1.mono λ_ h=>h.elim).trans cA.1) λb O=>ad;have eF:(⟨GA,gn,gc,MA,mn,mc,PA,pn,pc⟩:UV).Ok dk u:=H1.2.1.on (Fr.low (M:=λb=>b=aT.heap.size) (((bv.trans (bc.2.1.trans b2.o)).mono λ_ h=>h.elim).trans cA.1) λb O=>ad);have d7:=λW (bE:Ext dk W)=>EY u dN (⟨GA,gn,gc,MA,mn,mc,PA,pn,pc⟩:UV) (⟨bV,bW,bD,TA,tn,tc,some ⟨aA,0,none⟩,hn,bi⟩:SV) W H1.1 cA.2.2.2 (eF.on bE) ((cA.2.1.ok λb O=>O.1).on bE);have bQ:=λW (bE:Ext dk W)=>Fi u dN (⟨GA,gn,gc,MA,mn,mc,PA,pn,pc⟩:UV) (⟨bV,bW,bD,TA,tn,tc,some ⟨aA,0,none⟩,hn,bi⟩:SV) W H1.1 cA.2.2.2 (eF.on bE) ((cA.2.1.ok λb O=>O.1).on bE);have cU:=az d7 bQ ex;clear d7 bQ ex eF c8 b8;go_wp2_with(fail);refine eJ (λ_=>False) [(0,0),(1,0),(3,0),(4,0),(2,1),(5,1),(6,3),(7,3),(8,1),(9,3),(10,3)] ?_
   iterate 4 refine ph ?_
   refine aB rfl (λK hK=>?_);go_simp;refine(cU.1 dk.drew Mo.drew).mono ?_;rintro e cr ⟨c1,rfl,cz,a7⟩;have cd:=ae (Fr.aG a7);refine dq hK (a7) ?_;clear hK K;clear a7 ci bO b5 cK aG aK;refine aB rfl (λK hK=>?_);go_simp;refine(cU.2.1 cr cd.o).mono ?_;rintro e v4 ⟨c2,rfl,cb,bd⟩;have eZ:c1=c2:=Bool.eq_iff_iff.2 (cz.trans cb.symm);subst eZ;have cj:=ae (cd.trans bd);refine dq hK (bd) ?_;clear hK K;clear bd cz cb;have a4:(c1 == c1)=true:=by cases c1<;>rfl
   iterate 2 refine pf ?_
   refine aB rfl (λK hK=>?_);go_simp;refine(It v4).mono ?_;rintro e a1 ⟨rfl,bP⟩;have eN:=ae (cj.trans bP);refine dq hK (bP) ?_;clear hK K;clear bP
   iterate 2 refine pf ?_
   refine aF ?_;go_wp2_with(fail);go_ret;exact⟨rfl,Fr.ext (cU.2.2.trans eN.o)⟩
section
open Go.ChangeShapes Go.WideShapes Go.ChangeAt Go.RowKit Go.Deep
theorem machineValid_in{H:Type}{enc:TypeId×Value->H}{base:Nat}{spare:Nat->Bool}{held:Bool}{v0 v1 v2 cr:Value}{cK cp cX bx:DataW H×List MemPlace}(A B:Mt)(n c m d:Nat)(l bg:List Int)(eM at_ bA:Int)(w:World)(h:cw (EF cO) 1 w w.heap.size A n l)(hp:cw (EF cO) 1 w w.heap.size B m bg)(hc:n<=c)
  (h0:DataW.trod enc prog w base spare held k 22 [v0]=some cK) (ac:DataW.trod enc prog w base spare held k 23 [v1]=some cp) (ap:DataW.trod enc prog w base spare held k 24 [v2]=some cX) (aV:DataW.trod enc prog w base spare held k 3 [cr]=some bx) :
  Calls prog 3 #[.slice A n c,.slice B m d,.agg #[v0,v1,v2,cr],eM,at_,bA] w λe ab=>e=.returned true/\Below w w ab:=by
 obtain⟨s,q,he,bK,aL⟩:=xd h0 ac ap aV;rw[he];exact nD A B n c m d l bg s q eM at_ bA w h hp bK aL hc
end
end Go.Proofs.YtpkfopfkdgkfkaaGreat
