/- Part 36 of the proof. No condition of its own. -/
import Derived.Test.YtnigabjngpnbiaaGreatQ35
namespace Go.Proofs.YtnigabjngpnbiaaGreat
open Go.RowKit Go.Proofs.Tryz
set_option maxRecDepth 1000000
set_option maxHeartbeats 25600000
set_option linter.unusedVariables false
variable{P:Nat->Prop}{p:Prop}{w:World}
theorem vR:cA prog 183 215 (.agg #[.bool false,.string ⟨#[]⟩,.slice none 0 0,.int .i64 0,.int .i64 0,.string ⟨#[]⟩,.slice none 0 0]) 7 104:=cA.mk' Tryz.underlying183 (by kernel_rfl) rfl ad
theorem ES{r:eR}{IA:Kj}{i ic:Nat}(h:Sl w P IA i (r.idx.toList.map bB))(hc:i<=ic):(eg (.mx r)).rep w P [.bool true,.string r.name,.slice IA i ic,.int .i64 0,.int .i64 0,.string ⟨#[]⟩,.slice none 0 0]:=by
 unfold eg;rw[bK];exact eN.2 ⟨_,rfl,jt.2 ⟨[.string r.name,.slice IA i ic],_,rfl,qa.2 ⟨IA,i,ic,rfl,hc,h⟩,D.bt.2 (eF.2 ⟨none,0,rfl⟩)⟩⟩
theorem ER{x:VE}{fg:Kj}{fd fx:Nat}(h:Sl w P fg fd (x.args.map bB))(hc:fd<=fx):(eg (.ex x)).rep w P [.bool false,.string ⟨#[]⟩,.slice none 0 0,.int .i64 x.bP,.int .i64 x.numOf,.string x.dt,.slice fg fd fx]:=by
 unfold eg;rw[bK];refine eN.2 ⟨_,rfl,jt.2 ⟨[.string ⟨#[]⟩,.slice none 0 0],_,rfl,?_,D.bt.2 (bj.2 ⟨fg,fd,fx,rfl,hc,h⟩)⟩⟩;exact x8
theorem fZ:∀b:an,b.list.length<=b.num
 | .nil=>by simp[an.list]
 | .set _ _ _ rest=>by simp[an.list,an.num,fZ rest]
 | .call _ _ _ rest=>by simp[an.list,an.num,fZ rest]
 | .lock _ _ rest=>by simp[an.list,an.num,fZ rest]
 | .ite _ th el rest=>by simp[an.list,an.num];have:=fZ rest;omega
 | .fL _ th rest=>by simp[an.list,an.num];have:=fZ rest;omega
 | .ret rest=>by simp[an.list,an.num,fZ rest]
def fX:Code->Option Code
 | .loop c=>some c
 | .seq a b=>match fX a with
  | some c=>some c
  | none=>fX b
 | .block _ c=>fX c
 | .scope c=>fX c
 | .cond _ a b=>match fX a with
  | some c=>some c
  | none=>fX b
 | _=>none
noncomputable def rf:Code:=((Tryz.f108.body.bind fX).getD .skip)
def m4(U:gJ)(nk:Int)(F:List a1)(b:an)(G:Env)(d:Nat)(l:List dv)(n:Int)(st:Nat)(code:List ax)(sites:List Int)(g B:Nat)(bo:Kj)(ln lc:Nat)(S:Kj)(bx:Nat)(bP:Kj)(bQ:Nat)(A:Kj)(m c:Nat)(w:World)(aX:Value)(wr:World):Prop:=∃(k:Nat) (rest:an) (aM:List dv) (bc cT:Kk) (aQ:Int) (Y:Nat) (u:List ax) (y:List Int) (a4:Kj) (aZ bi:Nat) (ah:Kj) (ai:Nat) (aR:Kj) (aT:Nat),aX=.int .i64 k/\k<=m/\b.list.drop k=rest.list/\ds rest aM aQ u=ds b l n code/\Y+rest.num=st+b.num/\
   gr G d bc cT rest/\Sc U G aM bc cT aQ nk/\tg F G aM/\u.length+2*rest.num<=100000/\y.length=u.length/\aQ+rest.num<=100000/\aM.length+rest.num<=100000/\cx wr g B U.af F aM a4 aZ bi aQ Y u y ah ai aR aT/\
   Mv g (.slice S code.length bx) (.slice bP sites.length bQ) w (.slice ah u.length ai) (.slice aR y.length aT) wr
def h7(U:gJ)(nk:Int)(F:List a1)(b:an)(G:Env)(d:Nat)(l:List dv)(n:Int)(st:Nat)(code:List ax)(sites:List Int)(g B:Nat)(bo:Kj)(ln lc:Nat)(S:Kj)(bx:Nat)(bP:Kj)(bQ:Nat)(A:Kj)(m c:Nat)(w:World)(a:Act)(wr:World):Prop:=∃k ec ed u8 ee cI cJ cK cL cM cN cO cP cQ cR cS cU cV cW cX cY cZ c0 u32 c1 c2 c3 c4 c5 c6 c7 c8 da db dc dd de df dg dh di dj dk dm dn dp dq dr dt dw dx dy dz dA dB u64 dC dD dE dF dG dH dI dJ dK dL dM dN dO dP dQ dR dS dT dU dV dW dX dY dZ d0 d1 d2 d3 d4 d5 d6 d7 d8 d9 ea e h i o p r t x z C D E H I J K L M N O P Q R T V W Z aa ab ac ad ae af ag aj ak al am ao ap au av aw ay az aA aB aC aD aE aF aG aH aI aJ aK aL aN aP aS aU aV aY a0 a2 a3 a5 a6 a7 a9 bb bd be bf bg bh bj bl bm bn bp bq br bs bt bv bw bz bA bB bD bE bG bH bI bJ bK bL bM bN bO bR bS bT bU bV bW bX bY bZ b0 b1 b3 b4 b5 b6 b7 b8 b9 ca cb cd ce cf cg ch ci cl cm cn co cp cq cr cs ct cu cv cw cy cz cA cB cC cD cE cF cG cH:Value,m4 U nk F b G d l n st code sites g B bo ln lc S bx bP bQ A m c w k wr/\a=⟨#[.pointer (some ⟨g,0,none⟩),.slice A m c,undef,undef,.slice bo ln lc,k,ec,ed,u8,ee,cI,cJ,cK,cL,cM,.pointer (some ⟨g,0,none⟩),.pointer (some ⟨g,0,none⟩),.pointer (some ⟨g,3,none⟩),.slice bo ln lc,cN,cO,cP,cQ,cR,cS,cU,cV,cW,cX,cY,cZ,c0,u32,c1,c2,c3,c4,c5,c6,c7,c8,da,db,dc,dd,de,df,dg,dh,di,dj,dk,dm,dn,dp,dq,dr,dt,dw,dx,dy,dz,dA,dB,u64,dC,dD,dE,dF,dG,dH,dI,dJ,dK,dL,dM,dN,dO,dP,dQ,dR,dS,dT,dU,dV,dW,dX,dY,dZ,d0,d1,d2,d3,d4,d5,d6,d7,d8,d9,ea,e,h,i,o,p,r,t,x,z,C,D,E,H,I,J,K,L,M,N,O,P,Q,R,T,V,W,Z,aa,ab,ac,ad,ae,af,ag,aj,ak,al,am,ao,ap,au,av,aw,ay,az,aA,aB,aC,aD,aE,aF,aG,aH,aI,aJ,aK,aL,aN,aP,aS,aU,aV,aY,a0,a2,a3,a5,a6,a7,a9,bb,bd,be,bf,bg,bh,bj,bl,bm,bn,bp,bq,br,bs,bt,bv,bw,bz,bA,bB,bD,bE,bG,bH,bI,bJ,bK,bL,bM,bN,bO,bR,bS,bT,bU,bV,bW,bX,bY,bZ,b0,b1,b3,b4,b5,b6,b7,b8,b9,ca,cb,cd,ce,cf,cg,ch,ci,cl,cm,cn,co,cp,cq,cr,cs,ct,cu,cv,cw,cy,cz,cA,cB,cC,cD,cE,cF,cG,cH,undef,undef,undef,undef],[]⟩
def iD(m:Nat)(a:Act)(_:World):Nat:=m - (intOf (a.tmps.getD 5 undef)).toNat
def DV(U:gJ)(nk:Int)(F:List a1)(b:an)(G:Env)(d:Nat)(l:List dv)(n:Int)(st:Nat)(code:List ax)(sites:List Int)(g B:Nat)(bo:Kj)(ln lc:Nat)(S:Kj)(bx:Nat)(bP:Kj)(bQ:Nat)(A:Kj)(m c:Nat)(w:World)(a:Act)(wr:World):Prop:=∃k ec ed u8 ee cI cJ cK cL cM cN cO cP cQ cR cS cU cV cW cX cY cZ c0 u32 c1 c2 c3 c4 c5 c6 c7 c8 da db dc dd de df dg dh di dj dk dm dn dp dq dr dt dw dx dy dz dA dB u64 dC dD dE dF dG dH dI dJ dK dL dM dN dO dP dQ dR dS dT dU dV dW dX dY dZ d0 d1 d2 d3 d4 d5 d6 d7 d8 d9 ea e h i o p r t x z C D E H I J K L M N O P Q R T V W Z aa ab ac ad ae af ag aj ak al am ao ap au av aw ay az aA aB aC aD aE aF aG aH aI aJ aK aL aN aP aS aU aV aY a0 a2 a3 a5 a6 a7 a9 bb bd be bf bg bh bj bl bm bn bp bq br bs bt bv bw bz bA bB bD bE bG bH bI bJ bK bL bM bN bO bR bS bT bU bV bW bX bY bZ b0 b1 b3 b4 b5 b6 b7 b8 b9 ca cb cd ce cf cg ch ci cl cm cn co cp cq cr cs ct cu cv cw cy cz cA cB cC cD cE cF cG cH:Value,m4 U nk F b G d l n st code sites g B bo ln lc S bx bP bQ A m c w k wr/\k=.int .i64 m/\a=⟨#[.pointer (some ⟨g,0,none⟩),.slice A m c,undef,undef,.slice bo ln lc,k,ec,ed,u8,ee,cI,cJ,cK,cL,cM,.pointer (some ⟨g,0,none⟩),.pointer (some ⟨g,0,none⟩),.pointer (some ⟨g,3,none⟩),.slice bo ln lc,cN,cO,cP,cQ,cR,cS,cU,cV,cW,cX,cY,cZ,c0,u32,c1,c2,c3,c4,c5,c6,c7,c8,da,db,dc,dd,de,df,dg,dh,di,dj,dk,dm,dn,dp,dq,dr,dt,dw,dx,dy,dz,dA,dB,u64,dC,dD,dE,dF,dG,dH,dI,dJ,dK,dL,dM,dN,dO,dP,dQ,dR,dS,dT,dU,dV,dW,dX,dY,dZ,d0,d1,d2,d3,d4,d5,d6,d7,d8,d9,ea,e,h,i,o,p,r,t,x,z,C,D,E,H,I,J,K,L,M,N,O,P,Q,R,T,V,W,Z,aa,ab,ac,ad,ae,af,ag,aj,ak,al,am,ao,ap,au,av,aw,ay,az,aA,aB,aC,aD,aE,aF,aG,aH,aI,aJ,aK,aL,aN,aP,aS,aU,aV,aY,a0,a2,a3,a5,a6,a7,a9,bb,bd,be,bf,bg,bh,bj,bl,bm,bn,bp,bq,br,bs,bt,bv,bw,bz,bA,bB,bD,bE,bG,bH,bI,bJ,bK,bL,bM,bN,bO,bR,bS,bT,bU,bV,bW,bX,bY,bZ,b0,b1,b3,b4,b5,b6,b7,b8,b9,ca,cb,cd,ce,cf,cg,ch,ci,cl,cm,cn,co,cp,cq,cr,cs,ct,cu,cv,cw,cy,cz,cA,cB,cC,cD,cE,cF,cG,cH,undef,undef,undef,undef],[]⟩
def BK(X:an):Prop:=∀(c9:tk) (U:gJ) (nk:Int) (F:List a1) (b:an) (G:Env) (d:Nat) (l:List dv) (n:Int) (st:Nat) (code:List ax) (sites:List Int) (g B:Nat) (bo:Kj) (ln lc:Nat) (S:Kj) (bx:Nat) (bP:Kj) (bQ:Nat) (A:Kj) (m c:Nat) (w:World) (bF:Kl (Sl w (off (Ms g (.slice S code.length bx) (.slice bP sites.length bQ)) w) A m (b.list.map cc))) (b2:Kl (∀s∈b.list,kP U nk F s.th/\kP U nk F s.el)) (dl:Kl (∀f∈F,f.params.length<=1000)) (bC:Kl (b.list.length=m)) (ep:m<=100000) (du:st+b.num<=100000) (k:Nat) (aM:List dv) (bc cT:Kk) (aQ:Int) (Y:Nat) (u:List ax) (y:List Int) (a4:Kj) (aZ bi:Nat) (ah:Kj) (ai:Nat) (aR:Kj) (aT:Nat) (wr:World) (aq:k<m) (bk:b.list.drop k=X.list) (aO:ds X aM aQ u=ds b l n code) (ar:Y+X.num=st+b.num) (ba:gr G d bc cT X) (hS:Sc U G aM bc cT aQ nk) (aX:tg F G aM) (a8:u.length+2*X.num<=100000) (cj:y.length=u.length) (ck:aQ+X.num<=100000) (aW:aM.length+X.num<=100000) (bu:cx wr g B U.af F aM a4 aZ bi aQ Y u y ah ai aR aT) (hM:Mv g (.slice S code.length bx) (.slice bP sites.length bQ) w (.slice ah u.length ai) (.slice aR y.length aT) wr)
  (eb:Exit->Act->World->Prop) (hQ0:∀c a d v w,eb (.panic c) (a.put d v) w->eb (.panic c) a w)
  {ec ed u8 ee cI cJ cK cL cM cN cO cP cQ cR cS cU cV cW cX cY cZ c0 u32 c1 c2 c3 c4 c5 c6 c7 c8 da db dc dd de df dg dh di dj dk dm dn dp dq dr dt dw dx dy dz dA dB u64 dC dD dE dF dG dH dI dJ dK dL dM dN dO dP dQ dR dS dT dU dV dW dX dY dZ d0 d1 d2 d3 d4 d5 d6 d7 d8 d9 ea e h i o p r t x z C D E H I J K L M N O P Q R T V W Z aa ab ac ad ae af ag aj ak al am ao ap au av aw ay az aA aB aC aD aE aF aG aH aI aJ aK aL aN aP aS aU aV aY a0 a2 a3 a5 a6 a7 a9 bb bd be bf bg bh bj bl bm bn bp bq br bs bt bv bw bz bA bB bD bE bG bH bI bJ bK bL bM bN bO bR bS bT bU bV bW bX bY bZ b0 b1 b3 b4 b5 b6 b7 b8 b9 ca cb cd ce cf cg ch ci cl cm cn co cp cq cr cs ct cu cv cw cy cz cA cB cC cD cE cF cG cH:Value},
  Code.wp prog rf (Exit.then (λq j=>h7 U nk F b G d l n st code sites g B bo ln lc S bx bP bQ A m c w q j/\iD m q j<iD m ⟨#[.pointer (some ⟨g,0,none⟩),.slice A m c,undef,undef,.slice bo ln lc,(.int .i64 k),ec,ed,u8,ee,cI,cJ,cK,cL,cM,.pointer (some ⟨g,0,none⟩),.pointer (some ⟨g,0,none⟩),.pointer (some ⟨g,3,none⟩),.slice bo ln lc,cN,cO,cP,cQ,cR,cS,cU,cV,cW,cX,cY,cZ,c0,u32,c1,c2,c3,c4,c5,c6,c7,c8,da,db,dc,dd,de,df,dg,dh,di,dj,dk,dm,dn,dp,dq,dr,dt,dw,dx,dy,dz,dA,dB,u64,dC,dD,dE,dF,dG,dH,dI,dJ,dK,dL,dM,dN,dO,dP,dQ,dR,dS,dT,dU,dV,dW,dX,dY,dZ,d0,d1,d2,d3,d4,d5,d6,d7,d8,d9,ea,e,h,i,o,p,r,t,x,z,C,D,E,H,I,J,K,L,M,N,O,P,Q,R,T,V,W,Z,aa,ab,ac,ad,ae,af,ag,aj,ak,al,am,ao,ap,au,av,aw,ay,az,aA,aB,aC,aD,aE,aF,aG,aH,aI,aJ,aK,aL,aN,aP,aS,aU,aV,aY,a0,a2,a3,a5,a6,a7,a9,bb,bd,be,bf,bg,bh,bj,bl,bm,bn,bp,bq,br,bs,bt,bv,bw,bz,bA,bB,bD,bE,bG,bH,bI,bJ,bK,bL,bM,bN,bO,bR,bS,bT,bU,bV,bW,bX,bY,bZ,b0,b1,b3,b4,b5,b6,b7,b8,b9,ca,cb,cd,ce,cf,cg,ch,ci,cl,cm,cn,co,cp,cq,cr,cs,ct,cu,cv,cw,cy,cz,cA,cB,cC,cD,cE,cF,cG,cH,undef,undef,undef,undef],[]⟩ wr) eb) ⟨#[.pointer (some ⟨g,0,none⟩),.slice A m c,undef,undef,.slice bo ln lc,(.int .i64 k),ec,ed,u8,ee,cI,cJ,cK,cL,cM,.pointer (some ⟨g,0,none⟩),.pointer (some ⟨g,0,none⟩),.pointer (some ⟨g,3,none⟩),.slice bo ln lc,cN,cO,cP,cQ,cR,cS,cU,cV,cW,cX,cY,cZ,c0,u32,c1,c2,c3,c4,c5,c6,c7,c8,da,db,dc,dd,de,df,dg,dh,di,dj,dk,dm,dn,dp,dq,dr,dt,dw,dx,dy,dz,dA,dB,u64,dC,dD,dE,dF,dG,dH,dI,dJ,dK,dL,dM,dN,dO,dP,dQ,dR,dS,dT,dU,dV,dW,dX,dY,dZ,d0,d1,d2,d3,d4,d5,d6,d7,d8,d9,ea,e,h,i,o,p,r,t,x,z,C,D,E,H,I,J,K,L,M,N,O,P,Q,R,T,V,W,Z,aa,ab,ac,ad,ae,af,ag,aj,ak,al,am,ao,ap,au,av,aw,ay,az,aA,aB,aC,aD,aE,aF,aG,aH,aI,aJ,aK,aL,aN,aP,aS,aU,aV,aY,a0,a2,a3,a5,a6,a7,a9,bb,bd,be,bf,bg,bh,bj,bl,bm,bn,bp,bq,br,bs,bt,bv,bw,bz,bA,bB,bD,bE,bG,bH,bI,bJ,bK,bL,bM,bN,bO,bR,bS,bT,bU,bV,bW,bX,bY,bZ,b0,b1,b3,b4,b5,b6,b7,b8,b9,ca,cb,cd,ce,cf,cg,ch,ci,cl,cm,cn,co,cp,cq,cr,cs,ct,cu,cv,cw,cy,cz,cA,cB,cC,cD,cE,cF,cG,cH,undef,undef,undef,undef],[]⟩ wr
theorem Dn{J:World}{B e z:Nat}{v:Value}{n:Nat}{xs:List Value}(h:w.ownsRow B e z v n xs)(aj:∀b,B<=b->b<w.heap.size->J.heap[b]?=w.heap[b]?):J.ownsRow B e z v n xs:=by
 refine⟨h.1,?_⟩;rcases h.2 with ap|⟨ak,cap,cur,bD,j,f,rest⟩
 .exact .inl ap
 .exact .inr ⟨ak,cap,cur,bD,j,(aj ak j (Array.getElem?_eq_some_iff.1 f).1).trans f,rest⟩
namespace A3
theorem eI(h:p:=by
 clear bQ a8 bg;generalize bD:World.setCell aV _ _=cD;have y:=da bD;have b3:au cD X.heap.size 74 #[.bool false,.int .i64 mi,.slice bU 1 a5]:=bD▸bx.bH 2 _;have aU:=aD.on y ad;have bC:=J.on y ad;have j:=ae y;clear bD bx aD J y;obtain⟨a0,al,af⟩:=bC.two;obtain⟨bQ,a8,bg⟩:=b3.two;obtain⟨d6,dI,dM⟩:=aU.two;go_wp2;rw[rounds_succ];go_wp2;generalize cm:World.setCell _ _ _=Y;obtain⟨ax,ag,aO⟩:=bN.o;have b7:=aO.size;have a2:=ag.size;have bV:=j.size;have cd:Ext w cD:=⟨j.os.trans ((a4.trans (ag.trans aO)).os),j.tape.trans ((a4.trans (ag.trans aO)).tape),j.output.trans ((a4.trans (ag.trans aO)).output),JZ (a4.trans (ag.trans aO)).size bV,
  λk aj _=>(j.block k (JJ aj (a4.trans (ag.trans aO)).size) ad).trans ((a4.trans (ag.trans aO)).block k aj λh=>h)⟩
 obtain⟨bA,ce,bu⟩:=oj aU cd (Nat.le_succ _) cm;obtain⟨bh,an,aM⟩:=bA.two;refine Ke (v:=.agg #[.bool false,.int .i64 mi,.slice bU 1 a5]) (by simp[results,Tryz.results140,go_sem,bh]) rfl ?_;refine⟨_,_,_,_,_,rfl,?_,ce⟩;rw[bH.o];refine dB.2 ⟨bU,1,a5,rfl,ad,?_⟩;simp only[hx,Option.map_some,Option.toList_some,JO,J5];have bY:=bu.size;have fJ:=cX.lt;have cH:∀b,ea.heap.size<=b->b<aV.heap.size->Y.heap[b]?=aV.heap[b]?:=λb ac ap=>(bu.block b ad ad).trans (j.block b ap ad);have f:=Dn ax cH;simp only[J0,J8] at f;refine Sl.oJ f ?_ rfl (λak _ ac ap=>⟨ad,ap⟩);rw[D.bt];exact D.aA (λb S=>⟨by have:=S.1;omega,by have:=S.2;omega⟩) _ _ (D.aD (λb S=>(cH b S.1 (aC S.2)).trans (aO.block b S.2 λh=>h)) _ _ be.o)
 ):p:=h
theorem gO(h:p:=by
 refine tf ?_;refine cY ?_;generalize hX:World.setCell _ _ _=X;obtain⟨a6,bf,_⟩:=oj b8 a9 bm hX;have aT:=ae (bd.trans bf);have aJ:=ae (br.aj bf);have u:=ae (bv.aj bf);clear hX b0 am aw b8 a9 bm;obtain⟨b0,am,aw⟩:=a6.two;go_upto_region 6 with(fail);generalize hV:World.alloc _ _=ea;have T:=aY hV;have dj:=a6.aj T;have aE:=aF hV;have a4:=ae (aT.trans T);have N:=aJ.aj T;have bt:=ae (u.aj T);have bp:w.heap.size+2<=X.heap.size:=u.lt;obtain⟨bM,cX⟩:=aI N aE;clear hV T a6 b0 am aw;obtain⟨b0,am,aw⟩:=dj.two;obtain⟨a0,al,af⟩:=N.two;obtain⟨bQ,a8,bg⟩:=aE.two;obtain⟨d6,dI,dM⟩:=bt.two;have b4:w.heap.size+2<=ea.heap.size:=ad;clear dj N aE;obtain⟨cg,cV,bR⟩:=v;simp only at *;rcases cT.o with⟨cl,I⟩|⟨ap,m,h0,hm,ao,c0⟩
 .subst cl;have ai:n=0:=by have:=bF.1;rw[I] at this;exact this.symm
  subst ai;go_wp2;refine fj (λ_=>False) [(0,3),(1,0),(2,3),(3,3),(4,3),(5,3),(6,3),(7,3),(8,0),(9,3),(10,0),(11,3),(12,3),(13,0),(14,3),(15,3),(16,3)] ?_;refine pf ?_;refine ph ?_
  iterate 2 refine pf ?_
  refine dk rfl (by rfl) ?_
  try simp only[PU]
  refine dk rfl (by rfl) ?_
  try simp only[PU]
  refine dk rfl (by rfl) ?_
  try simp only[PU]
  refine dk rfl (by rfl) ?_
  try simp only[PU]
  refine iW rfl (by rfl) ?_
  try simp only[PU]
  refine dk rfl (by rfl) ?_
  try simp only[PU]
  refine iW rfl (by rfl) ?_
  try simp only[PU]
  refine dk rfl (by rfl) ?_
  try simp only[PU]
  refine dk rfl (by rfl) ?_
  try simp only[PU]
  refine iW rfl (by rfl) ?_
  try simp only[PU]
  refine dk rfl (by rfl) ?_
  try simp only[PU]
  iterate 2 refine pf ?_
  refine aG ?_;go_wp2;refine wp_loop_rounds 1 ?_;rw[rounds_succ];go_wp2;generalize cm:World.setCell _ _ _=Y;obtain⟨bA,ce,_⟩:=oj bt.o a4.o (Nat.le_succ _) cm;obtain⟨bh,an,aM⟩:=bA.two;clear cm;refine Ke (v:=.agg #[.bool true,.int .i64 bR,.slice none 0 0]) (by simp[results,Tryz.results140,go_sem,bh]) rfl ?_;exact x3
 .subst ap;obtain⟨mi,rfl⟩:=JN h0;rw[J3] at hm;obtain⟨_,MA,mn,mc,a3,bX,E⟩:=cF.on a4.o;have ah:mi<mn:=by have:=(List.getElem?_eq_some_iff.1 hm).1;have:=E.1;rw[JM] at this;omega
  obtain⟨b5,bw,aR,cs,rfl,cb,ab,bO,bL,bq⟩:=E.iG (z:=3) (λ_=>rfl) ah;rw[hm] at ab;injection ab with ab;subst ab;obtain rfl:=ih.1 bO;have f2:=bq 2 _ rfl;have bI:b5<ea.heap.size:=cb;have bb:g<ea.heap.size:=JJ bW.lt a4.size;clear E bL bq bO cb;by_cases bi:0<m.size
  .have bS:decide (m.size > 0)=true:=by simpa using bi
   obtain⟨x,hx,ay⟩:=ao bi;have aX:=bF.on (Fr.ext a4.o);rw[hx] at aX;obtain rfl:1=n:=aX.1;obtain⟨b,o,bl,Z,U,F,rfl,O,bs,e0,e1,e2,e3⟩:=Sl.Dj aX (c4 x);obtain⟨B,bE,bc,e,cp,G⟩:=bj.1 bs;simp only[List.cons.injEq,and_true] at e;obtain⟨rfl,rfl,rfl,rfl⟩:=e;have aN:b<ea.heap.size:=O;have aq:=ae bs;have bK:=ae (fD l x ay);have bT:=ae (bW.on a4.o);clear bs G O aX ao c0;go_wp2;refine fj (λ_=>False) [(0,3),(1,0),(2,3),(3,3),(4,3),(5,3),(6,3),(7,3),(8,0),(9,3),(10,0),(11,3),(12,3),(13,0),(14,3),(15,3),(16,3)] ?_;refine pf ?_;refine ph ?_
   iterate 6 refine pf ?_
   refine ph ?_;refine pf ?_;refine ph ?_
   iterate 2 refine pf ?_
   refine ph ?_
   iterate 3 refine pf ?_
   refine aG ?_;go_wp2;refine wp_loop_rounds 2 ?_;rw[rounds_succ];go_wp2;refine fj (λ_=>False) [(0,3),(1,0),(2,3),(3,3),(4,0),(5,3),(6,3),(7,0),(8,3),(9,1),(10,1),(11,2),(12,3),(13,2)] ?_;refine pf ?_;refine cR (v:=?_) rfl (by rfl) (λV hV=>?_) ?_;rotate_left
   .obtain⟨hVc,hVf⟩:=Fr.iB hV
    (go_simp<;>with_reducible rfl)
   try simp only[PU]
   iterate 2 refine pf ?_
   refine cR (v:=?_) rfl (by rfl) (λV hV=>?_) ?_;rotate_left
   .obtain⟨hVc,hVf⟩:=Fr.iB hV
    (go_simp<;>with_reducible rfl)
   try simp only[PU]
   iterate 2 refine pf ?_
   refine cR (v:=?_) rfl (by rfl) (λV hV=>?_) ?_;rotate_left
   .obtain⟨hVc,hVf⟩:=Fr.iB hV
    (go_simp<;>with_reducible rfl)
   try simp only[PU]
   refine pf ?_;refine aP rfl (λK hK=>?_);go_simp;refine(bK.o g st _ _ _ _ _ _ _ (bT.on Kf.drew.drew) (D.on aq.o (Fr.ext Kf.drew.drew))).mono ?_;rintro e aL ⟨o1,n1,s1,bz,cQ,ct,rfl,cB,L⟩;refine gu hK (L) ?_;clear hK K;have ag:Ext ea aL:=Fr.aL (Fr.aL L);have H:(bB (bG l x)).rep aL (fresh ea aL) [.int .i64 o1,.int .i64 n1,.string s1,.slice bz cQ ct]:=cB;have be:=ae H;refine sG ?_;refine az rfl (λK hK=>?_);rw[if_pos (by rfl)];have a2:=ag.size;refine wM _ nT (.tmp 79) (.tmp 88) (by rfl) ea.heap.size (.slice none 0 0) 0 [] _ (by rfl) ⟨by simp,.inl ⟨rfl,rfl⟩⟩ (by rfl) (by rfl) (by simp[Value.oneCell']) ad ad a2 ?_;intro v2 aV ax bn _;obtain⟨bU,a5,rfl,bk,_⟩:=cj ax;have aO:Ext aL aV:=Kf.grown bn (by simp[Value.ownBlock]);have bx:=(cX.aj ag).aj aO;have aD:=(bt.aj ag).aj aO;have J:=(bM.aj ag).aj aO;have bN:=av ax ag aO;clear ax bn cB H L ag aO a0 al af b0 am aw bQ a8 bg d6 dI dM e0 e1 e2 e3 aN f2 bI bb bX;obtain⟨bQ,a8,bg⟩:=bx.two;exact tN
  .have bS:decide (m.size > 0)=false:=by simp;omega
   have I:=c0 ad;have ai:n=0:=by have:=bF.1;rw[I] at this;exact this.symm
   subst ai;clear ao c0;go_wp2;refine fj (λ_=>False) [(0,3),(1,0),(2,3),(3,3),(4,3),(5,3),(6,3),(7,3),(8,0),(9,3),(10,0),(11,3),(12,3),(13,0),(14,3),(15,3),(16,3)] ?_;refine pf ?_;refine ph ?_
   iterate 6 refine pf ?_
   refine ph ?_;refine pf ?_;refine ph ?_
   iterate 2 refine pf ?_
   refine ph ?_
   iterate 3 refine pf ?_
   refine aG ?_;go_wp2;refine wp_loop_rounds 1 ?_;rw[rounds_succ];go_wp2;generalize cm:World.setCell _ _ _=Y;obtain⟨bA,ce,_⟩:=oj bt.o a4.o (Nat.le_succ _) cm;obtain⟨bh,an,aM⟩:=bA.two;clear cm;refine Ke (v:=.agg #[.bool false,.int .i64 mi,.slice none 0 0]) (by simp[results,Tryz.results140,go_sem,bh]) rfl ?_;exact x3
 ):p:=h
theorem tM(h:p:=by
 refine(dC bo ln lc l r.name V.drew (cc.on (Fr.ext a9.drew)) dt).mono ?_;rintro e aL ⟨rfl,L⟩;rw[b6.o];simp only[ia,pH];refine eC hK ?_;clear hK K
 iterate 3 refine tf ?_
 have cA:=aK.aj (Fr.aL L);have ag:=a9.trans (Fr.aL L);clear aK a9 L;exact key W.heap.size aL ⟨ag,cA,JI _⟩
 ):p:=h
theorem zA(h:p:=by
 refine kB (P:=?P1) (ops:=?o1) (Q:=?q1) (R:=?r1) (tails:=?t1) (rest:=.pick [11] (λ_=>.free 12 (.stop))) (aa:=?aa) (C:=λcS V=>Ext W V/\au V cS 133 #[.string ⟨#[]⟩,.int .i64 0,.int .i64 0]/\W.heap.size<=cS) (λkey=>?main) ?key
 case main=>
  refine b1 ?_ ?_
  ·
   refine ca rfl (λK hK=>?_) rfl;go_simp;refine(dC bo ln lc l r.name W.drew (cc.on (Fr.ext Kf.drew)) dt).mono ?_;rintro e aL ⟨rfl,L⟩;rw[b6.o];simp only[ia,pH];refine eC hK ?_;clear hK K
   iterate 3 refine tf ?_
   refine aB ?_;refine gX ?_;generalize hV:World.alloc _ _=V;have aK:=aF hV;have a9:Ext W V:=hV▸(Fr.aL L).alloc _;exact Cp
  ·
   exact tL
 case key=>
  rintro cS V ⟨a9,b8,bm⟩;have cP:=bv.lt;have aH:=br.lt;obtain⟨b0,am,aw⟩:=b8.two;clear a0 al af cv;exact gN
 ):p:=h
end A3
open A3 in
theorem EM:tk:=by
 intro g l M r b2 st s A n c w bP hM aZ;obtain⟨a1,aQ,aW,e,a7,hs⟩:=qa.1 aZ;simp only[List.cons.injEq,Value.string.injEq,Value.slice.injEq,and_true] at e;obtain⟨rfl,rfl,rfl,rfl⟩:=e;obtain⟨v,aA,aj⟩:=b2;have cT:=ae aj;have bH:=ae (show la l r=⟨v.kind == 5,v.n,r.idx.map (bG l)⟩ by unfold la;simp only[aA]);obtain⟨b6,bW,cF,bF⟩:=jF aA bP hM hs;clear aZ hs bP hM aj aA;go_enter func140,ntmps140;go_wp2;generalize ba:World.alloc _ _=W;have ar:=jN ba;have bJ:=fQ ba;have cC:=fR ba;clear ba;obtain⟨bd,br,bv⟩:=eS ar bJ cC;obtain⟨aS,bo,ln,lc,dt,cv,bZ⟩:=bW.on ar;have cc:=ae bZ;obtain⟨a0,al,af⟩:=bJ.two;clear ar bJ cC bZ;exact zz
end Go.Proofs.YtnigabjngpnbiaaGreat
