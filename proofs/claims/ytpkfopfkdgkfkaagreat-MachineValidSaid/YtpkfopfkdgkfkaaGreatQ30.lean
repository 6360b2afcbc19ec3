/- Part 30 of the proof. No condition of its own. -/
import Derived.Test.YtpkfopfkdgkfkaaGreatQ16
import Derived.Test.YtpkfopfkdgkfkaaGreatQ29
namespace Go.Proofs.YtpkfopfkdgkfkaaGreat
open Go.RowKit Go.Proofs.Tryz
set_option maxRecDepth 1000000
set_option maxHeartbeats 25600000
set_option linter.unusedVariables false
variable{p:Prop}
namespace CR
theorem sK(h:p:=by
 clear aO
 cases bE:fk u.af s.table hn with
 | false=>
  exact zK
 | true=>
  have cc:=ae bE;clear bE;go_wp2_with(fail);refine(ib MA mn mc u.af aS ((bt.2.1.on H1.2).at_.m.mM) bt.1).mono ?_;rintro e aT ⟨rfl,bj⟩;have aW:Ext aS aT:=Fr.of bj;have bc:=ag (H1.1.trans aW) (H1.2.trans aW);clear a0 ai af bq am aG bj aW;go_upto_region 6 with(fail);generalize hX:World.alloc _ _=X;have bu:=aU hX;have bp:=aI hX;have a2:=bc.1.trans bu;have aN:=az bp a2 (ah.1.trans a2);obtain⟨a0,ai,af⟩:=(ah.2.1.aj a2).two;obtain⟨bq,am,aG⟩:=(ah.2.2.aj a2).two;obtain⟨ci,bO,b5⟩:=bp.two;clear hX bu bp a2;go_wp2_with(fail);refine(wk HA hn hc s.threads u ⟨GA,gn,gc,MA,mn,mc,PA,pn,pc⟩ w.heap.size aT X (bt.2.2.1.on aN.2.2).at_.h nv (bt.2.1.on aN.2.2) bt.2.2.2.1 bt.2.2.2.2.1 (ah.2.1.aj aN.2.1) aN.1 bt.2.2.2.2.2).mono ?_;rintro e b7 ⟨bb,rfl,aB,a7⟩;have bQ:=ag aB (aN.2.2.trans a7);clear aB a7 a0 ai af bq am aG ci bO b5;go_wp2_with(fail);go_ret;refine⟨!bb,rfl,⟨λh=>b4.2 ⟨by have:=bf.o;omega,by have:=aR.o;omega,by have:=R.o;omega,by have:=Z.o;omega,by have:=ab.o;omega,cc.o,λt ht f J=>?_⟩,λh=>?_⟩,bQ.2⟩
  .have O:¬bb=true:=by cases bb<;>simp at h ⊢
   exact Classical.byContradiction λhn=>O (bQ.1.2 ⟨t,ht,f,J,hn⟩)
  .have j:=(b4.1 h).2.2.2.2.2.2
   cases O:bb with
   | false=>rfl
   | true=>
    obtain⟨t,ht,f,J,hn⟩:=bQ.1.1 O;exact absurd (j t ht f J) hn
 ):p:=h
theorem AK(h:p:=by
 by_cases e2:(hn:Int)<1
 .have a5:decide ((hn:Int)<1)=true:=decide_eq_true e2;have n:=ae e2;clear e2;go_wp2_with(fail);go_ret;exact⟨false,rfl,⟨λh=>(by cases h),λh=>absurd (b4.1 h).2.1 (ay n.o)⟩,ah.1⟩
 have a5:decide ((hn:Int)<1)=false:=decide_eq_false e2;have aR:=ae e2;clear e2;by_cases e3:(hn:Int) > 32
 .have av:decide ((hn:Int) > 32)=true:=decide_eq_true e3;have n:=ae e3;clear e3;go_wp2_with(fail);go_ret;exact⟨false,rfl,⟨λh=>(by cases h),λh=>absurd (b4.1 h).2.2.1 (ay n.o)⟩,ah.1⟩
 have av:decide ((hn:Int) > 32)=false:=decide_eq_false e3;have R:=ae e3;clear e3;by_cases be:a1<0
 .have ax:decide (a1<0)=true:=decide_eq_true be;have n:=ae be;clear be;go_wp2_with(fail);go_ret;exact⟨false,rfl,⟨λh=>(by cases h),λh=>absurd (b4.1 h).2.2.2.1 (ay n.o)⟩,ah.1⟩
 have ax:decide (a1<0)=false:=decide_eq_false be;have Z:=ae be;clear be;by_cases co:a1 > 4
 .have aC:decide (a1 > 4)=true:=decide_eq_true co;have n:=ae co;clear co;go_wp2_with(fail);go_ret;exact⟨false,rfl,⟨λh=>(by cases h),λh=>absurd (b4.1 h).2.2.2.2.1 (ay n.o)⟩,ah.1⟩
 have aC:decide (a1 > 4)=false:=decide_eq_false co;have ab:=ae co;clear co;go_wp2_with(fail);refine(zk MA TA mn mc tn tc u.af s.table hn W ((bt.2.1.on ah.1).at_.m.mM) bt.1 ((bt.2.2.1.on ah.1).at_.t.holds)).mono ?_;exact BZ
 ):p:=h
theorem gS(h:p:=by
 have cl:gn=u.globals.length:=by have:=hu.at_.g.1;simpa using this.symm
 have cf:bW=s.globals.length:=by have:=hs.at_.g.1;simpa using this.symm
 have bB:hn=s.threads.length:=by have:=hs.at_.h.1;simpa using this.symm
 have b4:Mw (ki u s↔bW=gn/\1<=hn/\hn<=32/\0<=s.fault/\s.fault<=4/\fk u.af s.table hn=true/\∀t∈s.threads,∀f∈t,eI u f):=ae (by rw[cl,cf,bB];exact Iff.rfl);have bt:=dm hX hu hs bi bh b1;clear hX hu hs bi bh b1 cl cf bB;simp only at nv;dsimp only[UV.val,SV.val];generalize ki u s=ca at *;generalize al:s.fault=a1 at *;clear al;go_enter func6,ntmps6;exact AJ
 ):p:=h
end CR
open CR in
theorem wM(u:aA)(s:ak)(p:UV)(q:SV)(w:World)(hX:mr u.af)(hu:p.Ok w u)(hs:q.Ok w s)(bi:u.procs.length<=100000)(bh:∀q∈u.procs,q.code.length<=100000)(nv:q.hn<=9223372036854775807)(b1:∀t∈s.threads,t.length<=9223372036854775807/\∀f∈t,f.an.length<=9223372036854775807) :
  Calls prog 6 #[.agg (p.val u),.agg (q.val s)] w (h4 w (ki u s)):=by
 exact gR
theorem sb{u:aA}{D:Nat}{s:ak}(hU:da u)(h:aW u D s):ki u s:=by
 refine⟨h.dv,h.vk.1,h.vk.2,h.fault.1,h.fault.2,ot h.table λk hd aj=>?_,λt ht f J=>?_⟩
 .have ah:=h.holds k hd aj;have bn:=ah.owner;have bw:=ah.depth;unfold dj;rw[decide_eq_false (show ¬hd.owner<0 by omega),decide_eq_false (show ¬(s.threads.length:Int)<hd.owner by omega),decide_eq_false (show ¬hd.depth<0 by omega)];have aV:((hd.owner == 0) != (hd.depth == 0))=false:=by
   by_cases h0:hd.owner=0
   .rw[h0,ah.EG.1 h0];rfl
   .have ac:¬hd.depth=0:=λh=>h0 (ah.EG.2 h);rw[show (hd.owner == 0)=false by simpa using h0,show (hd.depth == 0)=false by simpa using ac];rfl
  rw[aV];by_cases cI:1<hd.depth
  .rw[ah.re cI];simp
  .rw[decide_eq_false cI];rfl
 .have hF:=(h.fB t ht).2 f J;obtain⟨p,ac,ap,aV,bz⟩:=hF.ex;exact⟨hF.proc,hF.pc,p,ac,ap,aV,bz,hF.an⟩
namespace DA
theorem fy(h:p:=by
 refine ch ?_;generalize hX:World.setCell _ _ _=Z;obtain⟨bs,a9,bf⟩:=bA (w:=w) [.slice cR gn c1,.slice A2 (own u.af).length (own u.af).length,.slice cC 1 1,(0:Int)] (by rfl) m.2.2.2.2.1 m.2.2.2.2.2 ad hX;have bk:=ag a9 bf;clear hX a9 bf bl aD aP;obtain⟨bl,aD,aP⟩:=bs.two;clear bs;go_wp2_with(fail);refine Mn (v:=.agg #[.slice cR gn c1,.slice A2 (own u.af).length (own u.af).length,.slice cC 1 1,(0:Int)]) (by simp[results,Tryz.results39,go_sem,bl]) rfl ?_;have cU:=bk.2.size;have cl:u.globals.length=gn:=by have:=(ah.2.2).at_.g.1;rw[LO] at this;exact this
 have aR:∀b,W.heap.size<=b->b<V.heap.size->Z.heap[b]?=V.heap[b]?:=λb ac ap=>bk.2.block b ap ad;have hm:∀b,W.heap.size<=b->b<V.heap.size->(False\/(w.heap.size<=b/\b<Z.heap.size)):=λb ac ap=>.inr ⟨ad,ad⟩;have aL:=m.1.ai (ab:=Z) λb O=>aR b (m.2.1 b O).1 (m.2.1 b O).2;rw[yc];have cY:di u u.main [] []=⟨u.main,0,List.replicate L 0,[]⟩:=by unfold di;rw[cB.2.1];simp
 rw[cY];exact⟨⟨cR,gn,c1,A2,(own u.af).length,(own u.af).length,cC,1,1⟩,rfl,⟨⟨aL.sl (bX _) (by rw[LO];exact cl) λb O=>hm b (m.2.1 b O).1 (m.2.1 b O).2,(m.2.2.1.ai λb O=>aR b O.1 O.2.1).mono λb O=>hm b O.1 O.2.1,(m.2.2.2.1.ai λb O=>aR b O.1 O.2.1).mono λb O=>hm b O.1 O.2.1⟩,aL.cap,LK _,LK _⟩,bk.1⟩
 ):p:=h
theorem lU(h:p:=by
 have ah:=az aw cv (cc.on aw);have cN:=aw.size;have dx:=cv.lt;have bx:=(aw.cell cB.2.2.1 λh=>h).trans cB.2.2.2;have bi:pb<W:=LL cB.2.2.1 aw.size;obtain⟨a0,ai,af⟩:=aQ.two;obtain⟨ws,od⟩:∃ws,ws=W.heap.size:=⟨_,rfl⟩
 have bY:w<ws:=ad;have c7:pb<ws:=ad;have aU:=ae od;clear ba aw aQ cv od;refine r0 (λk=>¬k<ws) [24] (.free 1 (.held 2 (.free 4 (.held 5 (.free 9 (.held 10 (.free 11 (.held 12 (.free 13 (.held 14 (.free 15 (.free 16 (.held 17 (gZ 8 0 0)))))))))))))) ?_;refine tf ?_;refine oI ?_;refine tf ?_;refine oI ?_;refine tf ?_;refine oI ?_;refine tf ?_;refine oI ?_;refine tf ?_;refine oI ?_
 iterate 2 refine tf ?_
 refine oI ?_;have aB:Ext W W.drew:=(Fr.refl _ W).drew;refine Gw (W:=W) (gs:=u.globals) (gn:=gn) (gc:=gc) (mn:=mn) (mc:=mc) (L:=L) (ws:=ws) (GA:=GA) (MA:=MA) (mi:=u.main) (X:=u.af) (p0:=?Lg) (a0:=?KY) (p3:=?Lo) (a3:=?K6) (p6:=?LC) (a6:=?Lw) (p7:=?Lp) (a7:=?K7) (p8:=?Lq) (a8:=?K8) (p18:=?Lj) (a18:=?K1) (p19:=?Lk) (a19:=?K2) (p20:=?Ll) (a20:=?K3) (p21:=?Lm) (a21:=?K4) (p22:=?Ln) (a22:=?K5) ?hG sZ ?hM ?hX b8 ?od ?o0 ?o3 ?o6 ?o7 ?o8 ?Kl ?Km ?Kn ?Ko ?Kp ?kz 8 0 0 ad ad ad undef undef undef undef undef undef undef undef undef undef [] W.drew aB ?sA ?sB
 case hG=>exact ah.2.2.at_.g
 case hM=>exact ah.2.2.at_.m.mM
 case hX=>exact cB.1.ok.wK
 case od=>have:=aU.o;omega
 case o0=>rfl
 case o3=>rfl
 case o6=>rfl
 case o7=>rfl
 case o8=>rfl
 case Kl=>rfl
 case Km=>rfl
 case Kn=>rfl
 case Ko=>rfl
 case Kp=>rfl
 case sA=>exact⟨.inl ⟨rfl,rfl,.inl ⟨rfl,rfl,rfl,rfl⟩⟩,λh=>ad,λh=>ad,λk aj=>by simp at aj⟩
 case sB=>exact⟨λh=>ad,λh=>ad,λh=>ad⟩
 case kz=>
  intro cr v6 bt v10 v11 q s y z H E V bo bG aQ;obtain⟨cR,c1,F,rfl,b3,I⟩:∃A c F,v6=.slice A gn c/\Own V 3 1 A gn c (u.globals.map cW) F/\∀k∈F,W<=k/\k<V:=by
   rcases bG.g with⟨h,_⟩|⟨h,_⟩|⟨_,_,F,h,hF⟩
   .omega
   .omega
   .rcases h with⟨h,_⟩|⟨h,_⟩|⟨_,A,c,ac,ap⟩
    .omega
    .omega
    .exact⟨A,c,F,ac,ap,hF⟩
  obtain⟨A2,rfl,aM⟩:=bG.t ad;obtain⟨cC,rfl,aK⟩:=aQ.h ad;have bL:=ah.2.1.aj bo;have G:=ah.1.trans bo;have ds:=bo.size;have m:=dm b3 I aM aK bL G;obtain⟨bl,aD,aP⟩:=bL.two;clear b3 I aM aK bL G bG aQ bo a0 ai af bx;refine tf ?_;exact fQ
 ):p:=h
end DA
open DA in
theorem Ky(u:aA)(w:World)(p:UV)(hU:tD u)(hu:p.Ok w u) :
  Calls prog 39 #[.agg (p.val u)] w (G4 (λ_=>False) w (dT u)):=by
 obtain⟨GA,gn,gc,MA,mn,mc,PA,pn,pc⟩:=p;obtain⟨dP,bC,ak,bm,cj⟩:=hU.ok.main;have c3:=hU.ok.procs dP (LN ak);have cq:=c3.ints;have sZ:gn<=100000:=by have ac:=hu.at_.g.1;have ap:=hU.ok.oj;rw[LO] at ac;have aV:u.globals.length=gn:=ac;omega
 have bi:=hu.at_.p.1;rw[LO] at bi;simp only at bi;have ce:=(List.getElem?_eq_some_iff.1 ak).1;obtain⟨pb,gU,cV,S,cT,b2,e,cZ,cD,cK,cp,cX,bx,bK,_,_⟩:=hu.at_.proc (k:=u.main.toNat) (by show u.main.toNat<pn;omega);simp only at e;subst e;rw[ak] at cD;injection cD with cD;subst cD;obtain⟨L,bJ⟩:=LP (a:=dP.locals) ad;rw[bJ] at bx;have b8:L<=100000:=ad;have cu:u.main<(pn:Int):=ad;have aJ:fb u u.main=L:=by unfold fb;rw[ak];simp[bJ]
 have cB:=bF hU aJ cZ bx;have cc:=ae hu;clear hU ak bm cj c3 cq hu bi ce cK cp cX bx bK bJ aJ;dsimp only[UV.val];go_enter func39,ntmps39;exact lT
theorem Fr.EX{M M':Nat->Prop}{a b:World}(h:Fr M a b)(hM:∀k,k<a.heap.size->M k->M' k):Fr M' a b:=⟨h.os,h.tape,h.output,h.size,λk aj hn=>h.block k aj λhm=>hn (hM k aj hm)⟩
def x5(g:Nat)(w:World):Nat:=match w.cell? ⟨g,2,none⟩ with|some (.slice _ n _)=>n|_=>0
def HW(w:World)(u:aA)(x:aC)(a b:List Int×Int)(e:Ending)(ab:World):Prop:=∃(aV a5:Int) (IA:Mt) (i ic:Nat) (bw:Mt) (l lc:Nat) (z:Int),e=.returned (.tuple #[.agg #[.int .i64 aV,.int .i64 a5,.slice IA i ic,.slice bw l lc],.int .i64 z])/\Ext w ab/\
 (a.2≠0->z=a.2)/\(a.2=0->b.2≠0->z=b.2)/\(a.2=0->b.2=0->z=0/\(dh (di u x.target a.1 b.1)).rep ab (fresh w ab) [.int .i64 aV,.int .i64 a5,.slice IA i ic,.slice bw l lc])
namespace DI
theorem sH(h:p:=by
 have aa:=ag bb bR;obtain⟨d0,aK,aM⟩:=(ah.2.2.2.1.aj J).two;obtain⟨bq,am,aG⟩:=(ah.2.2.1.aj J).two;obtain⟨f0,dN,dQ⟩:=(cB.2.aj V).two;clear bb bR c4 a4 bh O aw aQ hG P J V;go_upto_region 6 with(fail);refine eJ (λ_=>False) [(0,3),(1,0),(2,3),(3,3),(4,0),(5,3),(6,0),(7,3),(8,0),(9,2),(10,3),(11,3),(12,3),(13,3),(14,3)] ?_;refine pf ?_;refine ph ?_
 iterate 2 refine pf ?_
 refine ph ?_;refine pf ?_;refine ph ?_;refine pf ?_;refine ph ?_;refine ax rfl (λK hK=>?_);go_simp;have aB:Ext wr wr.drew:=(Fr.refl _ wr).drew;obtain⟨bc,cx⟩:=aN.1.Gj (aN.2.1 ex (LN aa.1)) ((ah.2.2.2.2.2.1.on a3.2.2.2.2.1).on aB).at_.g ((ah.2.2.2.2.2.2.2.1.on a3.2.2.2.2.1).on aB).ints (D.on aa.2 (Fr.ext aB));refine(nI ex wr.drew bV IA bW i bD ic s.globals f.ints _ _ _ _ bc cx).mono ?_;rintro e aT ⟨rfl,bj⟩;have a8:=ae (show Ext wr aT from Fr.aG (Fr.of bj));have Q:=λaL=>ny (k:=k) a3.2.2.2.1 aa.1 aL;generalize ar:ev s.globals f.ints ex=R at *;obtain⟨r,z⟩:=R;have b9:=ag Q ar;clear Q ar bj aB d0 aK aM bq am aG f0 dN dQ c0 c1 c2 c3 a1 bc cx;refine dX hK ?_;clear hK K
 iterate 5 refine pf ?_
 refine aF ?_;have bM:=a3.2.1.aj a8.o;have bz:=ae bM;obtain⟨e0,be,a6⟩:=bM.two;have cQ:=a8.size;by_cases aL:z=0
 .have q5:(z != 0)=false:=by simpa using aL
  have Z:=ae (a3.2.2.1.aj a8.o);have bk:=ae aL;clear aL bM;go_wp2_with(at_builtin;refine bL cF rfl (.tmp 53) (.tmp 55) rfl Z.o (d:=D.i r) (cs:=#[.int .i64 r]) (by simp only[D.rep]) rfl rfl rfl ad ad ad ?_;intro cC a9 b7 bT g2 cP db;have bI:=bz.on g2 (λhm=>by have:=(Z.lt hm).1;omega);clear e0 be a6;obtain⟨e0,be,a6⟩:=bI.two;have bX:=az bT g2 bI;clear bT g2 cP db bI);generalize hX:World.setCell _ _ _=X;have bp:au X U 50 #[.int .i64 x.target,(0:Int),.slice cC (k+1) a9,()]:=hX▸bX.2.2.aN 2 _;have a2:Fr (λb=>b=U.heap.size) b7 X:=hX▸(Fr.refl (λb=>b=U.heap.size) _).setCell (.inl rfl) _;have cE:Fr (λb=>b=U.heap.size) Y X:=Fr.EX (M:=λb=>b=U.heap.size\/(Value.slice A k c).ownBlock=some b) (Fr.trans (Fr.trans (Fr.mono (Fr.trans a3.1 (Fr.mono a8.o λ_ h=>h.elim)) λ_ h=>.inl h) (Fr.mono bX.2.1 λ_ h=>.inr h)) (Fr.mono a2 λ_ h=>.inl h)) λb O hm=>hm.elim id λhm=>absurd (Z.lt hm).1 ad;have bU:=bX.1.cZ a2 λb O _=>⟨λh=>h,by rw[O];omega⟩
  have aq:=az bp cE bU;clear hX bp a2 cE bU e0 be a6;go_roundw
  case rel=>
   refine⟨k+1,cC,a9,by go_num,ad,aq.2.1,aq.1,?_,λe he=>?_⟩
   .rw[aY aa.1,LR,LR];have ac:=aq.2.2;exact sn
   .rw[aY aa.1] at he;rcases LU.1 he with he|he
    .exact a3.2.2.2.1 e he
    .rw[Mi.1 he,b9.2];exact bk.o
  case measure=>exact aH
 .have q5:(z != 0)=true:=by simpa using aL
  have b3:=ae (b9.1 aL);have bk:=ae aL;have av:=a3.2.2.2.2.1.trans a8.o;have cJ:=ah.2.2.2.2.2.2.2.2.aj av;have ds:=ag cJ (ah.1.trans av);obtain⟨bl,aD,aP⟩:=cJ.two;clear aL bM av cJ;go_wp2_with(fail);generalize hX:World.setCell _ _ _=X;obtain⟨bp,bu,cE⟩:=bA (w:=w) [.int .i64 x.target,(0:Int),.slice A k c,()] (by rfl) ds.1 ds.2 ad hX;have aq:=ae bu;clear hX bu cE bl aD aP e0 be a6;obtain⟨bl,aD,aP⟩:=bp.two;refine Mn (v:=.tuple #[.agg #[.int .i64 x.target,(0:Int),.slice A k c,()],z]) (by simp[results,Tryz.results80,go_sem,bl]) rfl ?_;refine⟨_,_,_,_,_,_,_,_,z,rfl,aq.o,λ_=>by rw[b3.o],λh=>absurd h ?_,λh=>absurd h ?_⟩
  .rw[b3.o];exact bk.o
  .rw[b3.o];exact bk.o
 ):p:=h
theorem gS(h:p:=by
 obtain⟨eo,en,es,EA,em,ec,QA,qm,qc,dn,j,dj,KA,cO,kc⟩:=v;obtain⟨bf,bn,cm,da,n,fc,IA,i,ic,bw,l,lc,e,hT⟩:=hs.at_.top h.sm h.ht;simp only at e;subst e;obtain⟨ch,cj,cH,aV⟩:=h.args cw;have bt:x.ints.length=j:=by have:=bE.ints.1;simpa using this
 have bP:x.places.length=cO:=by have:=bE.places.1;simpa using this
 have cz:j<=200:=by have:=h.il;omega
 have cI:cO<=200:=by have:=h.kl;omega
 have aN:=dm h ch cj bt bP aV;have cc:=bF hu hs bE hT;clear h ch cj bt bP aV hu hs bE hT;dsimp only[UV.val,SV.val,IV.val];go_enter func80,ntmps80;go_upto_region 1 with(fail);generalize ba:World.alloc _ _=W;have aw:=Jm ba;have bZ:=G7 ba;have ck:=G8 ba;have a5:=G9 ba;have cJ:=Ha ba;have ah:=tI aw bZ ck a5 (cc.1.on aw) (cc.2.1.on aw) (cc.2.2.1.on aw) (cc.2.2.2.on aw) cJ;obtain⟨bq,am,aG⟩:=ck.two;clear ba aw bZ ck a5 cc cJ;go_wp2_with(fail);refine(nJ ah.2.2.2.2.2.2.2.1 _ _ _).mono ?_;rintro e aS ⟨rfl,aO⟩;have bB:=ae aO;clear bq am aG;go_upto_region 2 with(fail);generalize hU:World.alloc _ _=U;have cr:=aU hU;have br:=aI hU;have bv:=aO.trans cr;obtain⟨d0,aK,aM⟩:=(ah.2.2.2.1.aj bv).two;have cN:=br.lt;have cB:=ag bv br;clear hU cr br bv aO;go_upto_region 3 with(fail);clear d0 aK aM;generalize co:World.alloc _ _=Y;have bG:=aU co;have bs:=aI co;have cY:=bs.lt;have bC:=ag bG bs;clear co bG bs;go_wp2_with(fail);go_loopw [13] (λcA wr=>∃(k:Nat) (A:Mt) (c:Nat),cA=.int .i64 k/\k<=j/\Fr (λb=>b=U.heap.size) Y wr/\au wr U 50 #[.int .i64 x.target,(0:Int),.slice A k c,()]/\Gr (λ_=>False) Y 3 1 wr A k c (((x.ints.take k).map λe=>(ev s.globals f.ints e).1).map D.i)/\wy s.globals f.ints x.ints k) (λcA _=>j - (intOf cA).toNat)
 case atStart=>exact⟨0,none,0,rfl,ad,Mo,bC.2,Gr.nil _ _ _ _ _,λe he=>by simp at he⟩
 case round=>
  obtain⟨k,A,c,rfl,aj,aw,aQ,hG,P⟩:=hrel;have V:Ext U wr:=Fr.low (M:=λb=>b=U.heap.size) (Fr.trans (Fr.mono bC.1 λ_ h=>h.elim) aw) λb O=>by rw[O];exact LK _
  have J:=cB.1.trans V;have a3:=dm aw aQ hG P J V;have cl:=aw.size;by_cases an:k<j
  .obtain⟨b,o,ex,cs,rfl,O,bb,bR,bh,a4⟩:=(ah.2.2.2.2.2.2.1.ints.on (Fr.ext J)).hf df an;exact sG
  .obtain rfl:k=j:=ad;have y:cR s.globals f.ints x.ints=(x.ints.map λe=>(ev s.globals f.ints e).1,0):=nz λe he=>P e (by rw[LS (ay aN.2.2.2.1)];exact he);have b0:Gr (λ_=>False) Y 3 1 wr A k c ((cR s.globals f.ints x.ints).1.map D.i):=by
    have aR:=hG;rw[LS (ay aN.2.2.2.1)] at aR;rw[y];exact aR
   obtain⟨T,rfl⟩:∃T,T=wr:=⟨wr,rfl⟩
   have HA:=ag b0 y;obtain⟨d0,aK,aM⟩:=(ah.2.2.2.1.aj J).two;clear aw aQ hG P J V y b0;go_wp2_with(fail);clear d0 aK aM;go_loopw [16] (λcA wr=>∃(m:Nat) (B:Mt) (aE:Nat),cA=.int .i64 m/\m<=cO/\Fr (λb=>b=U.heap.size) T wr/\au wr U 50 #[.int .i64 x.target,(0:Int),.slice A k c,.slice B m aE]/\Gr (λ_=>False) T 3 1 wr B m aE (((x.places.take m).map λp=>(bH u s f p).1).map D.i)/\∀p∈x.places.take m,(bH u s f p).2=0) (λcA _=>cO - (intOf cA).toNat)
   case atStart=>exact⟨0,none,0,rfl,ad,Mo,a3.2.1,Gr.nil _ _ _ _ _,λe he=>by simp at he⟩
   case round=>
    obtain⟨m,B,aE,rfl,hm,aw,aQ,hG,P⟩:=hrel;have V:Ext U wr:=Fr.low (M:=λb=>b=U.heap.size) (Fr.trans (Fr.mono a3.2.2.2.2.2 λ_ h=>h.elim) aw) λb O=>by rw[O];exact LK _
    have J:=cB.1.trans V;have bN:=dm aw aQ hG P J V;have cG:=aw.size;by_cases cg:m<cO
    .obtain⟨b,o,pl,b4,ci,zc,rfl,O,bb,cK,cp,cX,bO,cU⟩:=(ah.2.2.2.2.2.2.1.places.on (Fr.ext J)).o5 cg;have a1:b<wr:=O;have aa:=az bb bO cU;obtain⟨a0,ai,af⟩:=(ah.2.1.aj J).two;obtain⟨bq,am,aG⟩:=(ah.2.2.1.aj J).two;obtain⟨d0,aK,aM⟩:=(ah.2.2.2.1.aj J).two;clear bb bO cU O aw aQ hG P J V;go_upto_region 13 with(fail);refine eJ (λ_=>False) [(0,0),(1,0),(2,3),(3,3),(4,0),(5,3),(6,3),(7,0),(8,2),(9,3),(10,3),(11,3),(12,3),(13,3)] ?_
     iterate 2 refine ph ?_
     iterate 2 refine pf ?_
     refine ph ?_
     iterate 2 refine pf ?_
     refine ph ?_;refine ax rfl (λK hK=>?_);go_simp;have aB:Ext wr wr.drew:=(Fr.refl _ wr).drew;have cy:=bN.2.2.2.2.1.trans aB;refine(qz u s t f pl N wr.drew ⟨GA,gn,gc,MA,mn,mc,PA,pn,pc⟩ ⟨bV,bW,bD,TA,tn,tc,some ⟨bf,bn,none⟩,hn,hc⟩ b4 ci zc ⟨aN.1.hU.ok,aN.1.hS,aN.1.sm,aN.1.ht,⟨cn,aN.1.hp,aN.2.2.1 pl (LN aa.1)⟩,ah.2.2.2.2.1.on cy,ah.2.2.2.2.2.1.on cy,eh.2 ⟨b4,ci,zc,rfl,aa.2.1,aa.2.2.on (Fr.ext aB)⟩⟩).mono ?_;rintro e aT ⟨rfl,bj⟩;rw[iD aN.1.ht];have a8:=ae (show Ext wr aT from Fr.aG (Fr.of bj));have Q:=λaL=>l8 (k:=m) bN.2.2.2.1 aa.1 aL;generalize ar:bH u s f pl=R at *;obtain⟨r,z⟩:=R;have b9:=ag Q ar;clear Q ar bj aB cy a0 ai af bq am aG d0 aK aM cK cp cX a1;refine dX hK ?_;clear hK K
     iterate 5 refine pf ?_
     refine aF ?_;have bM:=bN.2.1.aj a8.o;have bz:=ae bM;obtain⟨e0,be,a6⟩:=bM.two;have cQ:=a8.size;by_cases aL:z=0
     .have q5:(z != 0)=false:=by simpa using aL
      have Z:=ae (bN.2.2.1.aj a8.o);have bk:=ae aL;clear aL bM;go_wp2_with(at_builtin;refine bL cF rfl (.tmp 82) (.tmp 84) rfl Z.o (d:=D.i r) (cs:=#[.int .i64 r]) (by simp only[D.rep]) rfl rfl rfl ad ad ad ?_;intro cC a9 b7 bT g2 cP db;have bI:=bz.on g2 (λhm=>by have:=(Z.lt hm).1;omega);clear e0 be a6;obtain⟨e0,be,a6⟩:=bI.two;have bX:=az bT g2 bI;clear bT g2 cP db bI);generalize hX:World.setCell _ _ _=X;have bp:au X U 50 #[.int .i64 x.target,(0:Int),.slice A k c,.slice cC (m+1) a9]:=hX▸bX.2.2.aN 3 _;have a2:Fr (λb=>b=U.heap.size) b7 X:=hX▸(Fr.refl (λb=>b=U.heap.size) _).setCell (.inl rfl) _;have cE:Fr (λb=>b=U.heap.size) T X:=Fr.EX (M:=λb=>b=U.heap.size\/(Value.slice B m aE).ownBlock=some b) (Fr.trans (Fr.trans (Fr.mono (Fr.trans bN.1 (Fr.mono a8.o λ_ h=>h.elim)) λ_ h=>.inl h) (Fr.mono bX.2.1 λ_ h=>.inr h)) (Fr.mono a2 λ_ h=>.inl h)) λb O hm=>hm.elim id λhm=>absurd (Z.lt hm).1 ad;have bU:=bX.1.cZ a2 λb O _=>⟨λh=>h,by rw[O];omega⟩
      have aq:=az bp cE bU;clear hX bp a2 cE bU e0 be a6;go_roundw
      case rel=>
       refine⟨m+1,cC,a9,by go_num,ad,aq.2.1,aq.1,?_,λe he=>?_⟩
       .rw[aY aa.1,LR,LR];have ac:=aq.2.2;exact sn
       .rw[aY aa.1] at he;rcases LU.1 he with he|he
        .exact bN.2.2.2.1 e he
        .rw[Mi.1 he,b9.2];exact bk.o
      case measure=>exact aH
     .have q5:(z != 0)=true:=by simpa using aL
      have b3:=ae (b9.1 aL);have bk:=ae aL;have av:=bN.2.2.2.2.1.trans a8.o;have cJ:=ah.2.2.2.2.2.2.2.2.aj av;have ds:=ag cJ (ah.1.trans av);obtain⟨bl,aD,aP⟩:=cJ.two;clear aL bM av cJ;go_wp2_with(fail);generalize hX:World.setCell _ _ _=X;obtain⟨bp,bu,cE⟩:=bA (w:=w) [.int .i64 x.target,(0:Int),.slice A k c,.slice B m aE] (by rfl) ds.1 ds.2 ad hX;have aq:=ae bu;clear hX bu cE bl aD aP e0 be a6;obtain⟨bl,aD,aP⟩:=bp.two;refine Mn (v:=.tuple #[.agg #[.int .i64 x.target,(0:Int),.slice A k c,.slice B m aE],z]) (by simp[results,Tryz.results80,go_sem,bl]) rfl ?_;refine⟨_,_,_,_,_,_,_,_,z,rfl,aq.o,λh=>absurd ?_ h,λ_ _=>by rw[b3.o],λ_ h=>absurd h ?_⟩
      .rw[HA.2]
      .rw[b3.o];exact bk.o
    .obtain rfl:m=cO:=ad;have bd:b1 u s f x.places=(x.places.map λp=>(bH u s f p).1,0):=l9 λe he=>P e (by rw[LS (ay aN.2.2.2.2.1)];exact he);have cf:Sl wr (λb=>T.heap.size<=b/\b<wr.heap.size) B m ((b1 u s f x.places).1.map D.i):=by
      have aR:=hG;rw[LS (ay aN.2.2.2.2.1)] at aR;rw[bd];exact aR.sl (λb _ h=>h.elim) λb an O=>⟨O,an⟩
     have bm:=hG.cap.1;have b0:=HA.1.cZ aw λb O _=>⟨λh=>h,by rw[O];omega⟩
     obtain⟨cv,rfl⟩:∃cv,cv=wr:=⟨wr,rfl⟩
     have b6:=bF cf bm bd b0;obtain⟨eG,c8,dS,fH,ca⟩:=aN.2.2.2.2.2;have ce:=(List.getElem?_eq_some_iff.1 c8).1;have bi:=ah.2.2.2.2.1.at_.p.1;rw[LO] at bi;simp only at bi;obtain⟨pb,gU,cV,S,cT,b2,e,cZ,cD,cK,cp,cX,bx,bK,_,_⟩:=ah.2.2.2.2.1.at_.proc (k:=x.target.toNat) (by show x.target.toNat<pn;omega);simp only at e;subst e;rw[c8] at cD;injection cD with cD;subst cD;have cq:=ca.ints;obtain⟨L,bJ⟩:=LP (a:=eG.locals) ad;rw[bJ] at bx;have dX:k<=L:=by have:=aN.2.2.2.1;omega
     have b8:L<=200:=ad;have cu:x.target<(pn:Int):=ad;have aJ:fb u x.target=L:=by unfold fb;rw[c8];simp[bJ]
     have ct:=az aJ cZ bx;obtain⟨d0,aK,aM⟩:=(ah.2.2.2.1.aj J).two;clear aw aQ hG P J V bd cf b0 c8 dS fH ca ce bi cZ cK cp cX bx bK cq bJ aJ;go_wp2_with(fail);clear d0 aK aM;go_loopw [97] (λ_ wr=>∃(bY:Nat) (A2:Mt) (c2:Nat),k<=bY/\bY<=L/\Fr (λb=>b=U.heap.size\/(Y.heap.size<=b/\b<T.heap.size)) cv wr/\au wr U 50 #[.int .i64 x.target,(0:Int),.slice A2 bY c2,.slice B m aE]/\Gr (λ_=>False) Y.heap.size 3 1 wr A2 bY c2 (((cR s.globals f.ints x.ints).1++List.replicate (bY - k) 0).map D.i)/\∀b,(Value.slice A2 bY c2).ownBlock=some b->(b<T.heap.size\/cv.heap.size<=b)) (λ_ wr=>L - x5 U.heap.size wr)
     case atStart=>exact⟨k,A,c,ad,dX,Mo,bN.2.1,by rw[Nat.sub_self,List.replicate_zero,Mg];exact b6.2.2.2,λb O=>.inl (HA.1.lt O).2⟩
     case round=>
      obtain⟨bY,A2,c2,cS,bP,aw,aQ,hG,ao⟩:=hrel;have cd:=bC.1.size;have V:Ext U wr:=Fr.low (M:=λb=>b=U.heap.size\/(Y.heap.size<=b/\b<T.heap.size)) (Fr.trans (Fr.mono bN.2.2.2.2.2 λ_ h=>h.elim) aw) λb O=>by rcases O with O|O<;>omega
      have J:=cB.1.trans V;have bQ:=dm aw aQ hG ao J V;have cU:=aw.size;obtain⟨a0,ai,af⟩:=(ah.2.1.aj J).two;obtain⟨d0,aK,aM⟩:=(ah.2.2.2.1.aj J).two;obtain⟨e0,be,a6⟩:=aQ.two;have bx:=(J.cell ct.2.1 λh=>h).trans ct.2.2;have bi:pb<wr:=LL ct.2.1 J.size;clear aw aQ hG ao J V;by_cases aX:bY<L
      .go_upto_region 17 with(fail);refine eJ (λ_=>False) [(0,3),(1,0),(2,3),(3,3),(4,0),(5,3),(6,0),(7,3),(8,3),(9,0),(10,3)] ?_;refine pf ?_;refine ph ?_
       iterate 2 refine pf ?_
       refine ph ?_;refine pf ?_;refine ph ?_
       iterate 2 refine pf ?_
       refine ph ?_;refine pf ?_;refine aF ?_;generalize bS:World.drew wr=aT;have aW:Ext wr aT:=bS▸(Fr.refl _ wr).drew;clear bS a0 ai af d0 aK aM bx bi e0 be a6;have a8:=ae aW;have bM:=bQ.2.1.aj aW;have bz:=ae bM;have Z:=ae (bQ.2.2.1.aj aW);have cQ:=aW.size;obtain⟨e0,be,a6⟩:=bM.two;clear aW bM;have dr:(bY:Int)<(L:Int):=ad;have q7:decide ((bY:Int)<(L:Int))=true:=decide_eq_true dr;go_wp2_with(at_builtin;refine bL cF rfl (.tmp 99) (.tmp 100) rfl Z.o (d:=D.i 0) (cs:=#[.int .i64 0]) (by simp only[D.rep]) rfl rfl rfl ad ad ad ?_;intro cC a9 b7 bT g2 cP db;have bI:=bz.on g2 (λhm=>by have:=(Z.lt hm).1;omega);clear e0 be a6;obtain⟨e0,be,a6⟩:=bI.two;have bX:=bF bT g2 bI cP;clear bT g2 cP db bI);generalize hX:World.setCell _ _ _=X;have bp:au X U 50 #[.int .i64 x.target,(0:Int),.slice cC (bY+1) a9,.slice B m aE]:=hX▸bX.2.2.1.aN 2 _;have a2:Fr (λb=>b=U.heap.size) b7 X:=hX▸(Fr.refl (λb=>b=U.heap.size) _).setCell (.inl rfl) _;have cE:Fr (λb=>b=U.heap.size\/(Y.heap.size<=b/\b<T.heap.size)) cv X:=Fr.EX (M:=λb=>(b=U.heap.size\/(Y.heap.size<=b/\b<T.heap.size))\/(Value.slice A2 bY c2).ownBlock=some b) (Fr.trans (Fr.trans (Fr.mono (Fr.trans bQ.1 (Fr.mono a8.o λ_ h=>h.elim)) λ_ h=>.inl h) (Fr.mono bX.2.1 λ_ h=>.inr h)) (Fr.mono a2 λ_ h=>.inl (.inl h))) λb O hm=>hm.elim id λhm=>.inr ⟨(Z.lt hm).1,by rcases bQ.2.2.2.1 b hm with h|h<;>omega⟩;have bU:=bX.1.cZ a2 λb O _=>⟨λh=>h,by rw[O];omega⟩
       have b5:∀b,(Value.slice cC (bY+1) a9).ownBlock=some b->(b<T.heap.size\/cv.heap.size<=b):=λb O=>(bX.2.2.2 b O).elim (λh=>bQ.2.2.2.1 b h) λh=>.inr ad;have bo:L - x5 U X<L - x5 U.heap.size wr:=by
        unfold x5;rw[bp.cell 2,bQ.2.1.cell 2];show L - (bY+1)<L - bY
        omega
       have aq:=cL bp cE bU b5 bo;clear hX bp a2 cE bU b5 bo e0 be a6;go_roundw
       case rel=>
        refine⟨bY+1,cC,a9,ad,ad,aq.2.1,aq.1,?_,aq.2.2.2.1⟩;rw[show bY+1 - k=(bY - k)+1 by omega,List.replicate_succ',<-List.append_assoc,LR];exact aq.2.2.1
       case measure=>exact aq.2.2.2.2
      .have dJ:bY=L:=ad;have q7:decide ((bY:Int)<(L:Int))=false:=decide_eq_false ad;have dd:=ae dJ;clear dJ;go_upto_region 17 with(fail);refine eJ (λ_=>False) [(0,3),(1,0),(2,3),(3,3),(4,0),(5,3),(6,0),(7,3),(8,3),(9,0),(10,3)] ?_;refine pf ?_;refine ph ?_
       iterate 2 refine pf ?_
       refine ph ?_;refine pf ?_;refine ph ?_
       iterate 2 refine pf ?_
       refine ph ?_;refine pf ?_;refine aF ?_;generalize bS:World.drew wr=aT;have aW:Ext wr aT:=bS▸(Fr.refl _ wr).drew;clear bS a0 ai af d0 aK aM bx bi e0 be a6;have cQ:=aW.size;have bM:=bQ.2.1.aj aW;have a7:Fr (λb=>b=U.heap.size\/(Y.heap.size<=b/\b<T.heap.size)) cv aT:=Fr.trans bQ.1 (Fr.mono aW λ_ h=>h.elim);have av:=bQ.2.2.2.2.1.trans aW;have cJ:=ah.2.2.2.2.2.2.2.2.aj av;have ds:=bF cJ (ah.1.trans av) (bQ.2.2.1.aj aW) a7;obtain⟨e0,be,a6⟩:=bM.two;obtain⟨bl,aD,aP⟩:=cJ.two;clear aW bM av cJ a7;go_wp2_with(fail);generalize hX:World.setCell _ _ _=X;obtain⟨bp,bu,cE⟩:=bA (w:=w) [.int .i64 x.target,(0:Int),.slice A2 bY c2,.slice B m aE] (by rfl) ds.1 ds.2.1 ad hX;have aq:=ag bu cE;clear hX bu cE bl aD aP e0 be a6;obtain⟨bl,aD,aP⟩:=bp.two;refine Mn (v:=.tuple #[.agg #[.int .i64 x.target,(0:Int),.slice A2 bY c2,.slice B m aE],(0:Int)]) (by simp[results,Tryz.results80,go_sem,bl]) rfl ?_;refine⟨_,_,_,_,_,_,_,_,0,rfl,aq.1,λh=>absurd ?_ h,λ_ h=>absurd ?_ h,λ_ _=>⟨rfl,?_⟩⟩
       .rw[HA.2]
       .rw[b6.2.2.1]
       .have cW:=ah.2.2.2.2.2.2.2.2.lt;have bg:=cB.1.size;have dg:=bC.1.size;have dh:=a3.1.size;have di:=bN.1.size;have cb:=ds.2.2.2.size;have dc:=aq.2.size;have gz:=ds.2.2.1.cZ aq.2 λb O _=>⟨λh=>h,by rw[O];omega⟩
        refine c7.2 ⟨A2,bY,c2,B,m,aE,rfl,ds.2.2.1.cap.1,b6.2.1,?_,?_⟩
        .have hlen:(cR s.globals f.ints x.ints).1.length=k:=by rw[HA.2];simp[aN.2.2.2.1]
         show Sl X _ A2 bY (((cR s.globals f.ints x.ints).1++List.replicate (fb u x.target - (cR s.globals f.ints x.ints).1.length) 0).map D.i)
         rw[ct.1,hlen,<-dd.o];exact gz.sl (λb _ h=>h.elim) λb an O=>⟨ad,an⟩
        .show Sl X _ B m ((b1 u s f x.places).1.map D.i)
         refine(b6.1.ai (ab:=X) λb O=>?_).mono λb O=>⟨ad,ad⟩
         rw[aq.2.block b ad ad,ds.2.2.2.block b O.2 ad]
 ):p:=h
end DI
open DI in
theorem uF(u:aA)(s:ak)(t:Int)(f:al)(cn:cM)(x:aC)(N:Nat)(w:World)(p:UV)(q:SV)(v:IV)(h:jX u s t f cn x N)(cw:x.op=2\/x.op=3)(hu:p.Ok w u)(hs:q.Ok w s)(bE:v.Ok w x) :
  Calls prog 80 #[.agg (p.val u),.agg (q.val s),t,.agg (v.val x)] w (HW w u x (cR s.globals f.ints x.ints) (b1 u s f x.places)):=by
 exact gR
namespace DL
theorem vA(h:p:=by
 rw[b3.o];exact fu (B:=V.heap.size) bC.1 bk.2.drew (λb O=>⟨λhl=>by have:=G.o b hl;omega,ad⟩) (λb O=>by have:=G.o b O;omega) ad bk.1.drew (by rw[yf bN.2.1,List.set_set])
 ):p:=h
theorem dC(h:p:=by
 generalize hX:World.setCell _ _ _=Y;obtain⟨r,bH⟩:=aN.1.drop hX;have ar:=cp hX;have y:=(aN.1.lo O (by simp)).1;have i:Ext V Y:=Fr.low (M:=λb=>b=O) (Fr.trans (Fr.mono aN.2.1 λ_ h=>h.elim) ar) λb O=>ad;have bC:=az r bH (bS.trans i);have ay:=i.size;clear hX r bH ar i a0 ai af bq am aG d0 aK aM e0 be a6 c0 c1 c2 c3 H flb J;exact vz
 ):p:=h
theorem BG(h:p:=by
 iterate 3 refine pf ?_
 exact eS
 ):p:=h
theorem sw(h:p:=by
 clear bM cK a2;rcases cz.o with h|h
 all_goals
  first
   | have q1:(x.op == 1)=true:=by simpa using h
   | have q1:(x.op == 1)=false:=by simp;omega
  first
   | have cJ:(x.op == 2)=true:=by simpa using h
   | have cJ:(x.op == 2)=false:=by simp;omega
  first
   | have c9:(x.op == 3)=true:=by simpa using h
   | have c9:(x.op == 3)=false:=by simp;omega
  first
   | have dk:(x.op == 4)=true:=by simpa using h
   | have dk:(x.op == 4)=false:=by simp;omega
  first
   | have q5:(x.op == 5)=true:=by simpa using h
   | have q5:(x.op == 5)=false:=by simp;omega
  first
   | have dr:(x.op == 6)=true:=by simpa using h
   | have dr:(x.op == 6)=false:=by simp;omega
  first
   | have q7:(x.op == 7)=true:=by simpa using h
   | have q7:(x.op == 7)=false:=by simp;omega
  first
   | have dJ:(x.op == 8)=true:=by simpa using h
   | have dJ:(x.op == 8)=false:=by simp;omega
 ·
  have b3:=ae (yk (u:=u) (s:=s) (t:=t) (f:=f) h);clear h;go_upto_region 45 with(fail);generalize hX:World.setCell _ _ _=Y;have n:=aN.1.pc x.target;rw[hX] at n;have ar:=cp hX;have i:Ext V Y:=Fr.low (M:=λb=>b=lb) (Fr.trans (Fr.mono aN.2.1 λ_ h=>h.elim) ar) λb O=>ad;have bC:=az n.is n.o (bS.trans i);have ay:=i.size;clear hX n ar i a0 ai af bq am aG d0 aK aM e0 be a6 c0 c1 c2 c3 H flb J;exact Hi
 ·
  have b3:=ae (yl (u:=u) (s:=s) (t:=t) (f:=f) h);clear h;go_upto_region 9 with(fail);exact BF
 ):p:=h
theorem sy(h:p:=by
 exact su
 ):p:=h
theorem sD(h:p:=by
 exact sx
 ):p:=h
end DL
open DL in
theorem qG(u:aA)(s:ak)(t:Int)(f:al)(cn:cM)(x:aC)(N:Nat)(P:Nat->Prop)(w:World)(p:UV)(q:SV)(h:jX u s t f cn x N)(hN:N<=100000)(cw:x.op=7\/x.op=8)(hu:p.Ok w u)(dp:q.Is w P s)(bg:∀b,P b->b<w.heap.size) :
  Calls prog 40 #[.agg (p.val u),.agg (q.val s),t] w (cX P w (b5 u s t f x).1 (b5 u s t f x).2):=by
 exact sC
end Go.Proofs.YtpkfopfkdgkfkaaGreat
