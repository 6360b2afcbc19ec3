/- Part 47. No condition. -/
import Derived.Test.YtnigabjngpnbiabGreatF43
import Derived.Test.YtnigabjngpnbiabGreatF44
import Derived.Test.YtnigabjngpnbiabGreatF46
namespace Go.Proofs.YtnigabjngpnbiabGreat
open Go.RowKit Go.Proofs.Tryz
set_option maxRecDepth 1000000
set_option maxHeartbeats 25600000
set_option linter.unusedVariables false
variable{N g k n:Nat}{p:Prop}{t:TypeId}{w:World}{s:ai}{u:aw}
def JE(l:List Int)(i:Nat):Nat:=(within (l.getD i 0) 4).toNat
def ns(l:List Int)(k:Nat):List Nat:=(List.range k).map (JE l)
def z7(l:List Int)(k:Nat):List UInt8:=KV.flatMap Atom.bytes++(nr 0 (ns l k)).flatMap Atom.bytes
theorem JF(l:List Int)(i:Nat):JE l i<4:=by
 unfold JE within;omega
theorem y4(l:List Int)(i:Nat):((JE l i:Nat):Int)=within (l.getD i 0) 4:=by
 unfold JE within;omega
theorem q8:∀(a:List Nat) (i y:Nat),nr i (a++[y])=nr i a++tZ ((i+a.length) % 4) y
 | [],i,y=>by simp[nr]
 | x::a,i,y=>by
  simp only[Nj,nr,Ni,q8 a (i+1) y,Nh];rw[show i+1+a.length=i+(a.length+1) by omega]
theorem vH(l:List Int)(k:Nat):z7 l (k+1)=z7 l k++(tZ (k % 4) (JE l k)).flatMap Atom.bytes:=by
 unfold z7 ns;rw[List.range_succ,Na,List.map_singleton,q8,List.flatMap_append,M5,List.length_range,Nm,Ni]
theorem FN(x y:Nat):((tZ x y).flatMap Atom.bytes).length=24:=by simp[tZ,Atom.bytes,Gs]
theorem pL(l:List Int):∀k,(z7 l k).length=95+24*k
 | 0=>by rfl
 | k+1=>by rw[vH,M3,pL l k,FN];omega
theorem FO(l:List Int)(k:Nat):z7 l k++[125]=(oc (ns l k)).flatMap Atom.bytes:=by
 unfold z7 oc;rw[List.flatMap_append,List.flatMap_append,Ni];rfl
theorem ub{l:List Int}:∀y∈ns l k,y<4:=λy bb=>by
 obtain⟨i,_,rfl⟩:=Ns.1 bb;exact JF l i
theorem j0(l:List Int)(k:Nat):(ns l k).length=k:=by simp[ns]
theorem y5(l:List Int)(k:Nat){a bz:Int}(hx:a=97+((k % 4:Nat):Int))(bb:bz=97+((JE l k:Nat):Int)):
  strOf (z7 l k)++⟨#[103,111,32,102,40,109,117,116,101,120,32]⟩++strOf [byteOf a]++⟨#[44,32,109,117,116,101,120,32]⟩++strOf [byteOf bz]++⟨#[41,59,32]⟩=strOf (z7 l (k+1)):=by
 subst hx bb;have ac:(⟨#[103,111,32,102,40,109,117,116,101,120,32]⟩:ByteArray)=strOf [103,111,32,102,40,109,117,116,101,120,32]:=rfl;have az:(⟨#[44,32,109,117,116,101,120,32]⟩:ByteArray)=strOf [44,32,109,117,116,101,120,32]:=rfl;have aV:(⟨#[41,59,32]⟩:ByteArray)=strOf [41,59,32]:=rfl;have O:∀m:Nat,byteOf (97+(m:Int))=UInt8.ofNat (97+m):=λm=>by unfold byteOf;congr 1
 rw[ac,az,aV,ag,ag,ag,ag,ag,vH,O,O];congr 1
 simp[tZ,Gs,Atom.bytes]
def z6(n:Nat):List Int:=List.replicate n 0++(List.range n).map λk:Nat=>(k:Int)+1
def Hy(l:List Int)(n:Nat):aw:=gQ (Hx (ns l n))
theorem ua(l:List Int)(h:n<=5):yj (Hy l n):=⟨tK (IL ub (by rw[j0];exact h)),tL _⟩
def KW(l:List Int)(n:Nat):ai:=jd (Hy l n) (eS (Hy l n)) (z6 n)
theorem JD(l:List Int)(h:n<=5):aP (Hy l n) 60 (KW l n):=(ri (ua l h).ok (z6 n) 0 _ (pD (ua l h).ok)).mono (by simp[z6];omega)
theorem HB(n:Nat)(b2:List Nat)(cB:b2.length<=5):(kJ n (oc b2)).length<=4001/\0<(kJ n (oc b2)).length:=by
 match b2,cB with
 | [],_=>exact⟨Nat.le_of_ble_eq_true rfl,Nat.le_of_ble_eq_true rfl⟩
 | [a],_=>exact⟨Nat.le_of_ble_eq_true rfl,Nat.le_of_ble_eq_true rfl⟩
 | [a,b],_=>exact⟨Nat.le_of_ble_eq_true rfl,Nat.le_of_ble_eq_true rfl⟩
 | [a,b,c],_=>exact⟨Nat.le_of_ble_eq_true rfl,Nat.le_of_ble_eq_true rfl⟩
 | [a,b,c,d],_=>exact⟨Nat.le_of_ble_eq_true rfl,Nat.le_of_ble_eq_true rfl⟩
 | [a,b,c,d,e],_=>exact⟨Nat.le_of_ble_eq_true rfl,Nat.le_of_ble_eq_true rfl⟩
def Kn(P:aw->ai->Prop)(w:World)(e:Ending)(ab:World):Prop:=∃(u:aw) (s:ai) (p:UV) (q:SV),e=.returned (.tuple #[.agg (p.val u),.agg (q.val s)])/\P u s/\kP u s 60 ab p q/\Ext w ab
namespace Ek
theorem c4(h:p:=by
 generalize cA:World.setCell _ _ _=Z;obtain⟨bm,bd,a4⟩:=a9 (w:=w) [.slice bI bU bx,.slice TA tn tc,.slice HA hn b8,.int .i64 S.fault] (by rfl) bB.2.2.2 bB.2.1 ad cA;have bj:=br bd (Fr.trans (bB.2.2.1.mono λ_ h=>.inl h) (a4.mono λ_ h=>.inr h):Fr (λb=>b=w.heap.size\/b=w.heap.size+1) aW Z) (bB.1.on a4 ad) bm;clear cA bm bd a4 bh aR aZ bB;obtain⟨bq,a1,a5⟩:=bj.2.2.1.two;obtain⟨F,a6,ba⟩:=bj.2.2.2.two;go_wp2_with(fail);refine NB (v:=.tuple #[.agg #[.slice GA gn gc,.slice MA mn mc,.slice PA pn pc,.int .i64 u.main],.agg #[.slice bI bU bx,.slice TA tn tc,.slice HA hn b8,.int .i64 S.fault]]) (by simp[results,Tryz.results4,go_sem,bq,F]) rfl ?_;have aj:∀b,W.heap.size<=b->b<aW.heap.size->Z.heap[b]?=aW.heap[b]?:=λb ac az=>bj.2.1.block b az λh=>by rcases h with h|h<;>omega
 have cY:=bj.2.1.size;have ag:=H1.2.2.1.size;have q:=aP.2.1.size;have k:∀b,W.heap.size<=b->b<aO.heap.size->Z.heap[b]?=aO.heap[b]?:=λb ac az=>(aj b ac ad).trans (i.block b az λh=>h);refine⟨u,S,⟨GA,gn,gc,MA,mn,mc,PA,pn,pc⟩,⟨bI,bU,bx,TA,tn,tc,HA,hn,b8⟩,rfl,trivial,⟨H1.1,b1.2.2,ad,Ah (P:=fresh W aO) (D.aO (λb O=>k b O.1 O.2) _ _ H1.2.2.2) λb O=>by have:=O.2;omega,(SV.Is.ak b1.1 λb O=>aj b (by have:=O.1;have hd:X.drew.heap.size=X:=rfl;omega) O.2).ok λb O=>by have:=O.2;omega⟩,bj.1⟩
 ):p:=h
end Ek
open Ek in
theorem Ae(A B:NH)(n c m d:Nat)(l ai:List Int)(w:World)(h:cp (EF bQ) 1 w w.heap.size A n l)(hp:cp (EF bQ) 1 w w.heap.size B m ai)(hc:n<=c) :
  Calls prog 4 #[.slice A n c,.slice B m d] w (Kn (λ_ _=>True) w):=by
 have H:=ah h hp;clear h hp;go_enter func4,ntmps4;go_upto_region 1 with(fail);generalize be:World.alloc _ _=W;have aF:=g0 be;have bW:=e5 be;have cg:=eT be;have cZ:=cg.lt;have al:=cQ aF bW cg (H.1.cD (Fr.ext aF) aF.size) (H.2.cD (Fr.ext aF) aF.size);clear be aF bW cg;go_wp2_with(fail);refine(Gh A n c l W al.2.2.2.1 hc).mono ?_;rintro e aO ⟨u,bs,am,dk,ar,b4,o,hr,da,cW,bH,aD,cJ,d0,d1,d2,d3,d4,d5,GA,gn,gc,MA,mn,mc,PA,pn,pc,rfl,hU,_,_,_,bD,aM⟩;have g:(⟨GA,gn,gc,MA,mn,mc,PA,pn,pc⟩:UV).Ok aO u:=Ah bD λb O=>O.2;have H1:=br hU g aM bD;clear hU g aM bD;go_upto_region 2 with(fail);generalize hX:World.alloc _ _=X;have bt:=l9 hX;have bE:=iL hX;have cM:=bE.lt;have aP:=br (H1.2.1.on bt) (H1.2.2.1.trans bt) bE (al.2.2.2.2.cD (Fr.ext (H1.2.2.1.trans bt)) (H1.2.2.1.trans bt).size);obtain⟨b0,a8,bw⟩:=bE.two;have j:=ae bt;clear hX bt bE;refine eJ (λ_=>False) [(0,0),(1,0),(2,3),(3,1),(4,2),(5,2)] ?_
 iterate 2 refine ph ?_
 refine pf ?_;refine aE rfl (λK hK=>?_);go_simp;refine(xq u ⟨GA,gn,gc,MA,mn,mc,PA,pn,pc⟩ B m d ai X.drew H1.1 (aP.1.on (Fr.refl _ X).drew) (aP.2.2.2.cD (Fr.ext (Fr.refl _ X).drew) (MU _))).mono ?_;rintro e aW ⟨⟨bI,bU,bx,TA,tn,tc,HA,hn,b8⟩,rfl,bv,a7⟩;have ca:=HH u H1.1 ai;generalize jd u (eS u) (bR ai 60)=S at *;have f:Ext X aW:=Fr.aF a7;have b1:=ay bv f ca;have i:=ae (j.trans f);have bO:=f.size;dsimp only[SV.val];refine dB hK (a7) ?_;clear hK K;clear bv a7 f ca b0 a8 bw;have af:=(aP.2.1.trans b1.2.1)
 have bW:=al.2.1.aj af;have cg:=al.2.2.1.aj af;have mL:=af.size;have bL:=ay bW cg af;obtain⟨ci,aH,aK⟩:=bW.two;clear bW cg af;refine au rfl (λK hK=>?_);go_simp;refine dY hK ?_;clear hK K;generalize co:World.setCell _ _ _=Y;obtain⟨bM,bA,bz⟩:=a9 (w:=w) [.slice GA gn gc,.slice MA mn mc,.slice PA pn pc,.int .i64 u.main] (by rfl) bL.1 (al.1.trans bL.2.2) ad co;have cg:=bL.2.1.on bz ad;have c9:=bz.size;have bB:=br bM bA bz cg;obtain⟨bh,aR,aZ⟩:=cg.two;clear co bM bA bz cg ci aH aK;exact ew
def cr:ByteArray:=⟨#[109,117,116,101,120,32,97,59,32,109,117,116,101,120,32,98,59,32,102,117,110,99,32,109,97,105,110,40,41,32,123,32,103,111,32,102,40,41,59,32,108,111,99,107,32,97,59,32,108,111,99,107,32,98,59,32,125,32,102,117,110,99,32,102,40,41,32,123,32,108,111,99,107,32,98,59,32,108,111,99,107,32,97,59,32,125]⟩
def Kw:ByteArray:=strOf [97]
def Kx:ByteArray:=strOf [98]
def LQ:ByteArray:=strOf [102]
def LS:aI:=⟨strOf [109,97,105,110],[],.call true LQ [] (.lock false ⟨Kw,none⟩ (.lock false ⟨Kx,none⟩ .nil))⟩
def LR:aI:=⟨LQ,[],.lock false ⟨Kx,none⟩ (.lock false ⟨Kw,none⟩ .nil)⟩
def uH:bN:=⟨[],[⟨Kw,false,0⟩,⟨Kx,false,0⟩],[LS,LR]⟩
theorem w2:(dU cr.data.toList).1.length<=4001/\0<(dU cr.data.toList).1.length/\(dU cr.data.toList).2.2=0:=by decide +kernel
theorem GM:kI (dU cr.data.toList).1 10 0=some (uH.af,uH.funcs):=by rfl
theorem Iz:pe uH:=by
 refine⟨?_,?_,by decide,by decide,by decide,?_,?_,?_,⟨0,_,rfl,rfl,rfl⟩,by decide⟩
 .decide
 .decide
 .decide
 .decide
 .intro f J;have ba:∀(f:aI) (V:NI) (n:ByteArray),n=Kw\/n=Kx->rI (fG uH f) V ⟨n,none⟩:=λf V n hn=>by
   rcases hn with rfl|rfl
   .exact .inl ⟨⟨Kw,false,0⟩,by simp[fG,uH],rfl,λh=>absurd h (by decide),λ_=>rfl⟩
   .exact .inl ⟨⟨Kx,false,0⟩,by simp[fG,uH],rfl,λh=>absurd h (by decide),λ_=>rfl⟩
  simp only[uH,Nk,List.not_mem_nil,or_false] at J;rcases J with rfl|rfl
  .refine⟨by decide,by decide,by decide,?_⟩;exact⟨⟨[],by simp[fG,uH,LS,LR,sigs],trivial⟩,ba _ _ _ (.inl rfl),ba _ _ _ (.inr rfl),trivial⟩
  .refine⟨by decide,by decide,by decide,?_⟩;exact⟨ba _ _ _ (.inr rfl),ba _ _ _ (.inl rfl),trivial⟩
def uv:aw:=gQ uH
theorem tu:yj uv:=⟨tK Iz,tL uH⟩
def wh:ai:=jd uv (eS uv) [0,0,1]
theorem Ji:aP uv 60 wh:=(ri tu.ok [0,0,1] 0 (eS uv) (pD tu.ok)).mono (by decide)
theorem GN:gr uv wh 0=some (1,1):=by decide +kernel
theorem Ky:zC uv wh 0=false:=by decide +kernel
theorem Jj:zw (bq uv wh)=[0,1]:=by decide +kernel
theorem GL:fa (bq uv wh)=[0,1]:=by decide +kernel
theorem EM:oa uv wh=true:=by decide +kernel
theorem Jk(w:World)(t:TypeId)(sp:Nat×Nat):e4 (w.alloc (.cells #[.int .u8 109,.int .u8 117,.int .u8 116,.int .u8 101,.int .u8 120,.int .u8 32,.int .u8 97,.int .u8 59,.int .u8 32,.int .u8 109,.int .u8 117,.int .u8 116,.int .u8 101,.int .u8 120,.int .u8 32,.int .u8 98,.int .u8 59,.int .u8 32,.int .u8 102,.int .u8 117,.int .u8 110,.int .u8 99,.int .u8 32,.int .u8 109,.int .u8 97,.int .u8 105,.int .u8 110,.int .u8 40,.int .u8 41,.int .u8 32,.int .u8 123,.int .u8 32,.int .u8 103,.int .u8 111,.int .u8 32,.int .u8 102,.int .u8 40,.int .u8 41,.int .u8 59,.int .u8 32,.int .u8 108,.int .u8 111,.int .u8 99,.int .u8 107,.int .u8 32,.int .u8 97,.int .u8 59,.int .u8 32,.int .u8 108,.int .u8 111,.int .u8 99,.int .u8 107,.int .u8 32,.int .u8 98,.int .u8 59,.int .u8 32,.int .u8 125,.int .u8 32,.int .u8 102,.int .u8 117,.int .u8 110,.int .u8 99,.int .u8 32,.int .u8 102,.int .u8 40,.int .u8 41,.int .u8 32,.int .u8 123,.int .u8 32,.int .u8 108,.int .u8 111,.int .u8 99,.int .u8 107,.int .u8 32,.int .u8 98,.int .u8 59,.int .u8 32,.int .u8 108,.int .u8 111,.int .u8 99,.int .u8 107,.int .u8 32,.int .u8 97,.int .u8 59,.int .u8 32,.int .u8 125] t sp)) w.heap.size 0 86 cr:=by
 have hc:(#[.int .u8 109,.int .u8 117,.int .u8 116,.int .u8 101,.int .u8 120,.int .u8 32,.int .u8 97,.int .u8 59,.int .u8 32,.int .u8 109,.int .u8 117,.int .u8 116,.int .u8 101,.int .u8 120,.int .u8 32,.int .u8 98,.int .u8 59,.int .u8 32,.int .u8 102,.int .u8 117,.int .u8 110,.int .u8 99,.int .u8 32,.int .u8 109,.int .u8 97,.int .u8 105,.int .u8 110,.int .u8 40,.int .u8 41,.int .u8 32,.int .u8 123,.int .u8 32,.int .u8 103,.int .u8 111,.int .u8 32,.int .u8 102,.int .u8 40,.int .u8 41,.int .u8 59,.int .u8 32,.int .u8 108,.int .u8 111,.int .u8 99,.int .u8 107,.int .u8 32,.int .u8 97,.int .u8 59,.int .u8 32,.int .u8 108,.int .u8 111,.int .u8 99,.int .u8 107,.int .u8 32,.int .u8 98,.int .u8 59,.int .u8 32,.int .u8 125,.int .u8 32,.int .u8 102,.int .u8 117,.int .u8 110,.int .u8 99,.int .u8 32,.int .u8 102,.int .u8 40,.int .u8 41,.int .u8 32,.int .u8 123,.int .u8 32,.int .u8 108,.int .u8 111,.int .u8 99,.int .u8 107,.int .u8 32,.int .u8 98,.int .u8 59,.int .u8 32,.int .u8 108,.int .u8 111,.int .u8 99,.int .u8 107,.int .u8 32,.int .u8 97,.int .u8 59,.int .u8 32,.int .u8 125]:Array Value)=cr.data.map λc=>.int .u8 (c.toNat:Int):=by kernel_rfl
 refine⟨λi aN=>?_,by simp,by decide,by decide⟩;rw[Nm,cell_of_row _ _ i _ t sp (heap_alloc_new w _),hc,Array.getElem?_map,Array.getElem?_eq_getElem (by simpa using aN)];rfl
theorem LG(h:an w g t #[(0:Int),(0:Int),(1:Int)]):cp (EF bQ) 1 w w (some ⟨g,0,none⟩) 3 [0,0,1]:=
 Sl.ints (Sl.nY (l:=[D.i 0,D.i 0,D.i 1]) (cs:=[.int .i64 0,.int .i64 0,.int .i64 1]) h (by simp only[D.aQ,D.rep];simp) h.lt rfl)
theorem KX(h:an w g t #[(0:Int),(1:Int)]):Sl w (av w) (some ⟨g,0,none⟩) 2 ([0,1].map D.i):=
 Sl.nY (l:=[D.i 0,D.i 1]) (cs:=[.int .i64 0,.int .i64 1]) h (by simp only[D.aQ,D.rep];simp) h.lt rfl
namespace El
theorem B3(h:p:=by
 refine NB (v:=.tuple #[.agg #[.slice GA gn gc,.slice R aU aq,.slice PA pn pc,.int .i64 (gQ uH).main],.agg #[.slice bI bU bx,.slice TA tn tc,.slice QA cq qc,.int .i64 wh.fault]]) (by simp[results,Tryz.results23,go_sem,bq,F]) rfl ?_;have bl:=aP.2.size;have aV:∀b,W.heap.size<=b->b<b6.heap.size->Z.drew.heap[b]?=b6.heap[b]?:=λb ac az=>(bj.2.1 b ac ad).trans (bY.2.2.1.block b az λh=>h);exact⟨⟨GA,gn,gc,R,aU,aq,PA,pn,pc⟩,⟨bI,bU,bx,TA,tn,tc,QA,cq,qc⟩,rfl,⟨tu,Ji,ad,Ah (P:=fresh X aW) (D.aO (λb O=>aV b (ax O.1) (ax O.2)) _ _ bN.1) λb O=>by have:=O.2;omega,(SV.Is.ak bN.2.1 λb O=>aV b (ax O.1) O.2).ok λb O=>by have:=O.2;omega⟩,bj.1⟩
 ):p:=h
theorem c4(h:p:=by
 generalize cA:World.setCell _ _ _=Z;obtain⟨bm,bd,a4⟩:=a9 (w:=w) [.slice bI bU bx,.slice TA tn tc,.slice QA cq qc,.int .i64 wh.fault] (by rfl) bk.2.2.2 bk.2.1 ad cA;have aj:∀b,W.heap.size<=b->b<C.heap.size->Z.drew.heap[b]?=C.heap[b]?:=λb ac az=>(a4.block b ad ad).trans (bk.2.2.1.block b az ad);exact B2
 ):p:=h
theorem BA(h:p:=by
 refine dB hK (jT (g:=w.heap.size) [.slice GA gn gc,.slice R aU aq,.slice PA pn pc,.int .i64 (gQ uH).main] 0 C.drew) ?_;clear hK K;generalize aF:World.setCell _ _ _=E;obtain⟨cx,aJ,am⟩:=a9 (w:=w) [.slice GA gn gc,.slice R aU aq,.slice PA pn pc,.int .i64 (gQ uH).main] (by rfl) bY.1 bY.2.2.2 ad aF;exact CF
 ):p:=h
theorem Cf(h:p:=by
 generalize bF:World.alloc _ _=A;have l:=aX bF;have n:=aL bF;have j:=D.aO (λb (O:fresh X aW b)=>l.block b (ax O.2) λh=>h) _ _ bB.1;have HA:=br j (bB.2.1.trans l) (LG n) l;have aT:=l.size;clear bF l n j ci aH aK;refine(JI uv [0,0,1] (some ⟨Y,0,none⟩) 3 3 A ⟨GA,gn,gc,R,aU,aq,PA,pn,pc⟩ tu (Ah (P:=fresh X aW) HA.1 λb O=>by have:=O.2;omega) HA.2.2.1 ad).mono ?_;rintro e b6 ⟨⟨bI,bU,bx,TA,tn,tc,QA,cq,qc⟩,rfl,bv,bf⟩;have fk:=D.aO (λb (O:fresh X aW b)=>bf.block b (ax O.2) λh=>h) _ _ HA.1;have bN:=br fk (show (⟨bI,bU,bx,TA,tn,tc,QA,cq,qc⟩:SV).Is b6 (λk=>A.heap.size<=k/\k<b6.heap.size) wh from bv) (HA.2.1.trans bf) (HA.2.2.2.trans bf);have cI:=bf.size;clear bv bf fk;dsimp only[SV.val];go_upto_region 4 with(fail);generalize hC:World.alloc _ _=C;have u:=aX hC;have da:=aL hC;have i:=bN.2.2.1.trans u;have bg:=u.size;have mL:=i.size;have bY:=br (al.2.1.aj i) (al.2.2.aj i) u (al.1.trans i);exact Bz
 ):p:=h
end El
open El in
theorem uI(w:World):Calls prog 23 #[] w λe ab=>∃(p:UV) (q:SV),e=.returned (.tuple #[.agg (p.val uv),.agg (q.val wh)])/\kP uv wh 60 ab p q/\Ext w ab:=by
 go_enter func23,ntmps23;go_upto_region 1 with(fail);generalize be:World.alloc _ _=W;have aF:=g0 be;have bW:=e5 be;have cg:=eT be;have cZ:=cg.lt;have al:=ay aF bW cg;clear be aF bW cg;have kc:=Lib.run_convert_bytes_const (P:=prog) W 65 5 #[.int .u8 109,.int .u8 117,.int .u8 116,.int .u8 101,.int .u8 120,.int .u8 32,.int .u8 97,.int .u8 59,.int .u8 32,.int .u8 109,.int .u8 117,.int .u8 116,.int .u8 101,.int .u8 120,.int .u8 32,.int .u8 98,.int .u8 59,.int .u8 32,.int .u8 102,.int .u8 117,.int .u8 110,.int .u8 99,.int .u8 32,.int .u8 109,.int .u8 97,.int .u8 105,.int .u8 110,.int .u8 40,.int .u8 41,.int .u8 32,.int .u8 123,.int .u8 32,.int .u8 103,.int .u8 111,.int .u8 32,.int .u8 102,.int .u8 40,.int .u8 41,.int .u8 59,.int .u8 32,.int .u8 108,.int .u8 111,.int .u8 99,.int .u8 107,.int .u8 32,.int .u8 97,.int .u8 59,.int .u8 32,.int .u8 108,.int .u8 111,.int .u8 99,.int .u8 107,.int .u8 32,.int .u8 98,.int .u8 59,.int .u8 32,.int .u8 125,.int .u8 32,.int .u8 102,.int .u8 117,.int .u8 110,.int .u8 99,.int .u8 32,.int .u8 102,.int .u8 40,.int .u8 41,.int .u8 32,.int .u8 123,.int .u8 32,.int .u8 108,.int .u8 111,.int .u8 99,.int .u8 107,.int .u8 32,.int .u8 98,.int .u8 59,.int .u8 32,.int .u8 108,.int .u8 111,.int .u8 99,.int .u8 107,.int .u8 32,.int .u8 97,.int .u8 59,.int .u8 32,.int .u8 125] 86 86 Tryz.underlying65 Tryz.underlying5;go_wp2_with(fail);clear kc;generalize hV:World.alloc _ _=V;have hT:e4 V W.heap.size 0 86 cr:=hV▸Jk W _ _;have ai:=aX hV;clear hV
 have cc:=ah hT ai;clear hT ai;refine(sE cr W 0 86 V uH.af uH.funcs 10 cc.1 (by decide) w2.1 w2.2.1 w2.2.2 GM (by decide) (by decide)).mono ?_;rintro e aO ⟨MA,mn,mc,FA,fn,fc,z,rfl,f,bR,G,aM⟩;have H1:=ah f (cc.2.trans aM);have cn:=(cc.2.trans aM).size;clear f aM bR G;go_upto_region 2 with(fail);generalize hX:World.alloc _ _=X;have bt:=aX hX;have bE:=aL hX;have f:gX X (av X) uH none 0 MA mn FA fn:=by
  have aj:∀b,fresh V aO b->X.heap[b]?=aO.heap[b]?:=λb O=>bt.block b O.2 λh=>h;have hm:∀b,fresh V aO b->av X b:=λb O=>M0 O.2 bt.size;exact Ba
 have aP:=ah f (H1.2.trans bt);obtain⟨b0,a8,bw⟩:=bE.two;clear hX bt bE f;go_wp2_with(fail);refine(xm uH Iz none 0 0 MA mn mc FA fn fc X aP.1).mono ?_;rintro e aW ⟨GA,gn,gc,R,aU,aq,PA,pn,pc,rfl,bD,a7⟩;have b1:=ah bD (aP.2.trans a7);have bO:=a7.size;clear bD a7 b0 a8 bw;go_upto_region 3 with(fail);exact Ce
theorem yF(w:World):Calls prog 9 #[] w λe ab=>e=.returned true/\Ext w ab:=by
 go_enter func9,ntmps9;go_wp2_with(fail);refine(uI w).mono ?_;rintro e aO ⟨⟨GA,gn,gc,MA,mn,mc,PA,pn,pc⟩,⟨bI,bU,bx,TA,tn,tc,HA,hn,hc⟩,rfl,G,aM⟩;have H1:=ah G aM;clear G aM;dsimp only[UV.val,SV.val];go_upto_region 2 with(fail);generalize hX:World.alloc _ _=X;have bt:=g0 hX;have bX:=e5 hX;have bh:=eT hX;have aP:=br (H1.1.on bt) (H1.2.trans bt) bX bh;obtain⟨b0,a8,bw⟩:=bX.two;obtain⟨ci,aH,aK⟩:=bh.two;clear hX bt bX bh;go_wp2_with(fail);refine(waiting_any false uv wh 0 60 X ⟨GA,gn,gc,MA,mn,mc,PA,pn,pc⟩ ⟨bI,bU,bx,TA,tn,tc,HA,hn,hc⟩ aP.1).mono ?_;rintro e aW ⟨rfl,a7⟩;rw[GN];dsimp only[Option.map,Option.getD,Option.isSome];have b1:=ae a7;clear a7 b0 a8 bw ci aH aK;obtain⟨b0,a8,bw⟩:=(aP.2.2.1.aj b1.o).two;obtain⟨ci,aH,aK⟩:=(aP.2.2.2.aj b1.o).two;go_wp2_with(fail);refine(enabled_any false uv wh 0 60 aW ⟨GA,gn,gc,MA,mn,mc,PA,pn,pc⟩ ⟨bI,bU,bx,TA,tn,tc,HA,hn,hc⟩ (aP.1.on b1.o)).mono ?_;rintro e b6 ⟨rfl,bf⟩;rw[Ky];have bN:=ae (b1.trans bf);clear bf b0 a8 bw ci aH aK;obtain⟨b0,a8,bw⟩:=(aP.2.2.1.aj bN.o).two;obtain⟨ci,aH,aK⟩:=(aP.2.2.2.aj bN.o).two;go_wp2_with(fail);refine(Jt uv wh 60 b6 ⟨GA,gn,gc,MA,mn,mc,PA,pn,pc⟩ ⟨bI,bU,bx,TA,tn,tc,HA,hn,hc⟩ (aP.1.on bN.o)).mono ?_;rintro e cO ⟨A,c,rfl,_,bS,cu⟩;rw[Jj] at bS ⊢;have P:=ah bS (bN.trans cu);clear bS cu b0 a8 bw ci aH aK;go_wp2_with(fail);generalize co:World.alloc _ _=Y;have bA:=aX co;have bM:=aL co
 refine(kq A (some ⟨cO,0,none⟩) 2 c 2 2 [0,1] [0,1] Y ((P.1.cD (Fr.ext bA) bA.size).ints λb O=>O) (KX bM) ad).mono ?_;rintro e cV ⟨rfl,ax⟩;have dz:=ae ((P.2.trans bA).trans (Fr.of ax));clear co bA bM ax;obtain⟨b0,a8,bw⟩:=(aP.2.2.1.aj dz.o).two;obtain⟨ci,aH,aK⟩:=(aP.2.2.2.aj dz.o).two;rw[show decide (([0,1]:List Int)=[0,1])=true from rfl];go_wp2_with(fail);refine(IH uv wh 60 cV ⟨GA,gn,gc,MA,mn,mc,PA,pn,pc⟩ ⟨bI,bU,bx,TA,tn,tc,HA,hn,hc⟩ (aP.1.on dz.o)).mono ?_;rintro e cJ ⟨A2,c2,rfl,_,bS,T⟩;rw[GL] at bS ⊢;have ak:=ah bS (dz.trans T);clear bS T b0 a8 bw ci aH aK;go_wp2_with(fail);generalize co:World.alloc _ _=ha;have bA:=aX co;have bM:=aL co;refine(kq A2 (some ⟨cJ,0,none⟩) 2 c2 2 2 [0,1] [0,1] ha ((ak.1.cD (Fr.ext bA) bA.size).ints λb O=>O) (KX bM) ad).mono ?_;rintro e gP ⟨rfl,f⟩;have al:=ae ((ak.2.trans bA).trans (Fr.of f));clear co bA bM f;obtain⟨b0,a8,bw⟩:=(aP.2.2.1.aj al.o).two;obtain⟨ci,aH,aK⟩:=(aP.2.2.2.aj al.o).two;rw[show decide (([0,1]:List Int)=[0,1])=true from rfl];go_wp2_with(fail);refine(Jv uv wh 60 gP ⟨GA,gn,gc,MA,mn,mc,PA,pn,pc⟩ ⟨bI,bU,bx,TA,tn,tc,HA,hn,hc⟩ (aP.1.on al.o)).mono ?_;rintro e gU ⟨rfl,cK⟩;rw[EM];have b2:=ae ((aP.2.1.trans al.o).trans cK);clear cK b0 a8 bw ci aH aK;go_wp2_with(fail);go_ret;exact⟨rfl,b2.o⟩
def Kk(w:World)(e:Ending)(ab:World):Prop:=∃(u:aw) (s:ai) (p:UV) (q:SV),e=.returned (.tuple #[.agg (p.val u),.agg (q.val s)])/\(∀Z:World,ab.heap.size<=Z.heap.size->(∀b,w.heap.size<=b->b<ab.heap.size->Z.heap[b]?=ab.heap[b]?)->kP u s 60 Z p q/\q.Is Z (λb=>w.heap.size<=b/\b<ab.heap.size) s)/\Ext w ab
namespace Em
theorem B3(h:p:=by
 refine NB (v:=.tuple #[.agg #[.slice GA gn gc,.slice R aU aq,.slice PA pn pc,.int .i64 (Hy l j).main],.agg #[.slice bI bU bx,.slice TA tn tc,.slice QA cq qc,.int .i64 (KW l j).fault]]) (by simp[results,Tryz.results5,go_sem,bq,F]) rfl ?_;have bl:=aP.2.size;have aV:∀b,wr.heap.size<=b->b<b6.heap.size->Z.drew.heap[b]?=b6.heap[b]?:=λb ac az=>(bj.2.1 b ac ad).trans (bY.2.2.1.block b az λh=>h);have s:Z.drew.heap.size=Z:=rfl;exact⟨Hy l j,KW l j,⟨GA,gn,gc,R,aU,aq,PA,pn,pc⟩,⟨bI,bU,bx,TA,tn,tc,QA,cq,qc⟩,rfl,λbK aI cJ=>⟨⟨(ua l b7.o),(JD l b7.o),ad,Ah (P:=fresh X aW) (D.aO (λb O=>(cJ b (ax O.1) (ax O.2)).trans (aV b (ax O.1) (ax O.2))) _ _ bN.1) λb O=>by have:=O.2;omega,(SV.Is.ak bN.2.1 λb O=>(cJ b (ax O.1) (ax O.2)).trans (aV b (ax O.1) O.2)).ok λb O=>by have:=O.2;omega⟩,(SV.Is.ak bN.2.1 λb O=>(cJ b (ax O.1) (ax O.2)).trans (aV b (ax O.1) O.2)).mono λb O=>⟨by have:=O.1;omega,by have:=O.2;omega⟩⟩,bj.1⟩
 ):p:=h
theorem c4(h:p:=by
 generalize cA:World.setCell _ _ _=Z;obtain⟨bm,bd,a4⟩:=a9 (w:=w) [.slice bI bU bx,.slice TA tn tc,.slice QA cq qc,.int .i64 (KW l j).fault] (by rfl) bk.2.2.2 bk.2.1 ad cA;have aj:∀b,wr.heap.size<=b->b<C.heap.size->Z.drew.heap[b]?=C.heap[b]?:=λb ac az=>(a4.block b ad ad).trans (bk.2.2.1.block b az ad);exact B2
 ):p:=h
theorem BA(h:p:=by
 refine dB hK (jT (g:=w.heap.size) [.slice GA gn gc,.slice R aU aq,.slice PA pn pc,.int .i64 (Hy l j).main] 0 C.drew) ?_;clear hK K;generalize aF:World.setCell _ _ _=E;obtain⟨cx,aJ,am⟩:=a9 (w:=w) [.slice GA gn gc,.slice R aU aq,.slice PA pn pc,.int .i64 (Hy l j).main] (by rfl) bY.1 bY.2.2.2 ad aF;exact CF
 ):p:=h
theorem Cf(h:p:=by
 have HA:=ae (m.2.2.2.cD (Fr.ext bB.2.1) bB.2.1.size);clear ci aH aK;refine(JI (Hy l j) (z6 j) bu (j+j) bs Y ⟨GA,gn,gc,R,aU,aq,PA,pn,pc⟩ (ua l b7.o) (Ah (P:=fresh X aW) bB.1 λb O=>by have:=O.2;omega) HA.o ad).mono ?_;rintro e b6 ⟨⟨bI,bU,bx,TA,tn,tc,QA,cq,qc⟩,rfl,bv,bf⟩;have fk:=D.aO (λb (O:fresh X aW b)=>bf.block b (ax O.2) λh=>h) _ _ bB.1;have bN:=br fk (show (⟨bI,bU,bx,TA,tn,tc,QA,cq,qc⟩:SV).Is b6 (λk=>Y.heap.size<=k/\k<b6.heap.size) (KW l j) from bv) (bB.2.1.trans bf) bf;have cI:=bf.size;clear bv bf fk;dsimp only[SV.val];go_upto_region 19 with(fail);generalize hC:World.alloc _ _=C;have u:=aX hC;have da:=aL hC;have i:=bN.2.2.1.trans u;have bg:=u.size;have mL:=i.size;have bY:=br (m.2.1.aj i) (m.2.2.1.aj i) u (m.1.trans i);exact Bz
 ):p:=h
end Em
open Em in
theorem FQ(A:NH)(n c:Nat)(l:List Int)(w:World)(h:cp (EF bQ) 1 w w A n l) :
  Calls prog 5 #[.slice A n c] w (Kk w):=by
 have hl:=h.1;go_enter func5,ntmps5;go_upto_region 1 with(fail);generalize be:World.alloc _ _=W;have aF:=g0 be;have bW:=e5 be;have cg:=eT be;have cZ:=cg.lt;have al:=br aF bW cg (h.cD (Fr.ext aF) aF.size);have bT:=ae hl;clear be aF bW cg h hl;go_wp2_with(fail);refine(ku n 4 ad ad _).mono ?_;rintro e aO ⟨rfl,rfl⟩;have aN:0<=within n 4/\within n 4<=3:=by unfold within;omega
 generalize within n 4=ar at *;obtain⟨N,rfl⟩:∃N:Nat,ar=(N:Int) - 2:=⟨(ar+2).toNat,ad⟩
 have hN:2<=N/\N<=5:=ad;clear aN;go_wp2_with(fail);go_loopw [5,6,7] (λsv d4 b5 wr=>∃k:Nat,k<=N/\sv=.string (strOf (z7 l k))/\b5=.int .i64 k/\wr.ownsRow W 3 1 d4 k ((List.replicate k (0:Int)).flatMap bQ)/\Below W W wr) (λ_ _ b5 _=>N - (intOf b5).toNat)
 case atStart=>exact⟨0,ad,rfl,rfl,World.ownsRow_nil _ _ _ _,Below.refl _ _⟩
 case round=>
  obtain⟨k,aj,rfl,rfl,aB,O⟩:=hrel;by_cases ap:k<N
  .have cU:(k:Int)<(N:Int):=ad;obtain⟨y,bb⟩:∃y:Int,y=within (l.getD k 0) 4:=⟨_,rfl⟩
   have bB:=ae bb;have bH:0<=y/\y<=3:=by rw[bb];unfold within;omega
   have bF:IntKind.i64.wrap (Int.tmod (k:Int) 4)=((k % 4:Nat):Int):=by rw[Int.tmod_eq_emod_of_nonneg ad,IntWalk.i64_in _ ad];omega
   by_cases ce:k<n
   case' pos=>
    obtain⟨b,o,x,rfl,ao,hx,c0⟩:=(al.2.2.2.fA O).int ce;have r:l.getD k 0=x:=by rw[List.getD_eq_getElem?_getD,hx];rfl
    rw[r] at bb;have Q:(k:Int)<(n:Int):=ad;clear r hx;go_wp2_with(fail);refine(ku x 4 ad ad _).mono ?_;rintro e ab ⟨rfl,rfl⟩;rw[<-bb];clear bb ce Q;have bL:=ae O;have cv:(⟨#[103,111,32,102,40,109,117,116,101,120,32]⟩:ByteArray).size=11:=rfl;have cm:(⟨#[44,32,109,117,116,101,120,32]⟩:ByteArray).size=8:=rfl;have bc:(⟨#[41,59,32]⟩:ByteArray).size=3:=rfl;have U:(strOf (z7 l k)).size=95+24*k:=by rw[aC,pL]
    have aT:=iA wr (97+(k:Int) % 4);have a2:=eE ((wr.alloc (.cells #[.int .u8 (97+(k:Int) % 4)] 5)).alloc (.cells #[.int .u8 (97+y)] 5)) (wr.heap.size+1) (97+y) (by rw[show wr.heap.size+1=(wr.alloc (.cells #[.int .u8 (97+(k:Int) % 4)] 5)).heap.size by simp,(ND).cell];rfl);have cn:(strOf [byteOf (97+(k:Int) % 4)]).size=1:=aC _;have bO:(strOf [byteOf (97+y)]).size=1:=aC _;go_upto_region 11 with(fail);rw[y5 l k ad (by rw[y4,bB.o])];have S:=(aB.alloc (.cells #[.int .u8 (97+(k:Int) % 4)] 5)).alloc (.cells #[.int .u8 (97+y)] 5);have bn:=(bL.alloc bL.size (.cells #[.int .u8 (97+(k:Int) % 4)] 5)).alloc (by have:=bL.size;simp;omega) (.cells #[.int .u8 (97+y)] 5);generalize World.alloc (World.alloc _ _) _=X at *
   case' neg=>
    have r:l.getD k 0=0:=by rw[List.getD_eq_getElem?_getD,List.getElem?_eq_none (ax bT.o)];rfl
    rw[r] at bb;have bp:y=0:=by rw[bb];rfl
    subst bp;have Q:¬(k:Int)<(n:Int):=ad;clear bb r ce;have bL:=ae O;have cv:(⟨#[103,111,32,102,40,109,117,116,101,120,32]⟩:ByteArray).size=11:=rfl;have cm:(⟨#[44,32,109,117,116,101,120,32]⟩:ByteArray).size=8:=rfl;have bc:(⟨#[41,59,32]⟩:ByteArray).size=3:=rfl;have U:(strOf (z7 l k)).size=95+24*k:=by rw[aC,pL]
    have aT:=iA wr (97+(k:Int) % 4);have a2:=eE ((wr.alloc (.cells #[.int .u8 (97+(k:Int) % 4)] 5)).alloc (.cells #[.int .u8 (97)] 5)) (wr.heap.size+1) (97) (by rw[show wr.heap.size+1=(wr.alloc (.cells #[.int .u8 (97+(k:Int) % 4)] 5)).heap.size by simp,(ND).cell];rfl);have cn:(strOf [byteOf (97+(k:Int) % 4)]).size=1:=aC _;have bO:(strOf [byteOf (97)]).size=1:=aC _;go_upto_region 11 with(fail);rw[y5 l k ad (by rw[y4,<-bB.o];rfl)];have S:=(aB.alloc (.cells #[.int .u8 (97+(k:Int) % 4)] 5)).alloc (.cells #[.int .u8 (97)] 5);have bn:=(bL.alloc bL.size (.cells #[.int .u8 (97+(k:Int) % 4)] 5)).alloc (by have:=bL.size;simp;omega) (.cells #[.int .u8 (97)] 5);generalize World.alloc (World.alloc _ _) _=X at *
   all_goals
    clear aT a2 cn bO cv cm bc U;clear aB O bL;have b3:=bn.size;go_wp2_with(at_builtin;refine b9 _ cF (by rfl) (.tmp 56) (.tmp 57) (by rfl) W _ _ _ _ (by rfl) S (by rfl) (by rfl) (hL _ _) ad ad b3 ?_;intro v1 aO aA aY bC);go_roundw
    case rel=>exact⟨k+1,ad,rfl,by go_num,by rw[List.replicate_succ',dT];exact aA,dy bn S aY (MU _) b3⟩
    case measure=>simp[intOf]<;>omega
  .have aD:k=N:=ad;subst aD;have cU:¬(k:Int)<(k:Int):=ad;have bL:=ah aB O;clear aB O aj;go_wp2_with(fail);go_loopw [6,10] (λd4 b5 aW=>∃j:Nat,j<=k/\b5=.int .i64 ((j:Int)+1)/\aW.ownsRow W.heap.size 3 1 d4 (k+j) ((List.replicate k (0:Int)++(List.range j).map (λk:Nat=>(k:Int)+1)).flatMap bQ)/\Below W W aW) (λ_ b5 _=>k+1 - (intOf b5).toNat)
   case atStart=>exact⟨0,ad,rfl,by simpa using bL.1,bL.2⟩
   case round=>
    obtain⟨j,bi,rfl,aB,O⟩:=hrel;clear bL;by_cases ap:j<k
    .have cG:(j:Int)+1<=(k:Int):=ad;have b3:=O.size;go_wp2_with(at_builtin;refine b9 _ cF (by rfl) (.tmp 64) (.tmp 66) (by rfl) W _ _ _ _ (by rfl) aB (by rfl) (by rfl) (hL _ _) ad ad b3 ?_;intro v1 aO aA aY bC);go_roundw
     case rel=>exact⟨j+1,ad,by go_num,by rw[List.range_succ,Na,List.map_singleton,<-List.append_assoc,dT];exact aA,dy O aB aY (MU _) b3⟩
     case measure=>simp[intOf]<;>omega
    .have aw:j=k:=ad;subst aw;have cG:¬(j:Int)+1<=(j:Int):=ad;obtain⟨bu,bs,rfl,c7,_,_,_⟩:=bG aB;have rQ:cp (EF bQ) 1 wr wr.heap.size bu (j+j) (z6 j):=gH aB (gE _) (by simp[z6]);have bo:j<=5:=ad;have I:=lj O;have J:=I.size;have b7:=ae bo;have m:=br (al.1.trans I) (al.2.1.aj I) (al.2.2.1.aj I) rQ;clear aB O ap bi al rQ I;have U:(strOf (z7 l j)).size=95+24*j:=by rw[aC,pL]
     have bS:(⟨#[125]⟩:ByteArray).size=1:=rfl;obtain⟨T,aa⟩:∃T:ByteArray,strOf (z7 l j)++⟨#[125]⟩=T:=⟨_,rfl⟩
     have af:T.size<=300:=by rw[<-aa,ByteArray.size_append,U,bS];omega
     have ak:=ae (show T.data.toList=(oc (ns l j)).flatMap Atom.bytes by rw[<-FO,<-aa,show (⟨#[125]⟩:ByteArray)=strOf [125] from rfl,ag];rfl);have kc:=run_bytes_of_string (P:=prog) wr 9 65 5 T Tryz.underlying9 Tryz.underlying65 Tryz.underlying5;have bJ:=grownCap_ge wr T.size 0 5;generalize M:grownCap wr T.size 0 5=cap at *;clear M;go_wp2_with(fail);clear kc;generalize hV:World.alloc _ _=V;have hT:e4 V wr 0 cap T:=by
      rw[<-hV];exact zg wr _ cap bJ ad _ _
     have ai:=aX hV;have cc:=ah hT ai;have a3:=ae af;clear hV ai hT aa U bS af;have L:=JG ub (by rw[j0];exact b7.o:(ns l j).length<=5);rw[<-ak.o] at L;have dz:=HB T.data.toList.length (ns l j) (by rw[j0];exact b7.o);refine(sE T wr 0 cap V.drew (Hx (ns l j)).af (Hx (ns l j)).funcs 10 (cc.1.on NC.drew) (ax a3.o) (by rw[L];exact dz.1) (by rw[L];exact dz.2) (by rw[L]) (by rw[L];exact Hz _ _ (by rw[j0];omega) (by rw[j0];exact b7.o)) (by show (4:Nat)<=12;decide) (by show (2:Nat)<=16;decide)).mono ?_;rintro e aO ⟨MA,mn,mc,FA,fn,fc,z,rfl,f,bR,G,aM⟩;clear L dz;have H:Ext wr aO:=cc.2.drew.trans aM;have H1:=ah f H;have cn:=H.size;clear f aM H bR G bJ;go_upto_region 17 with(fail);generalize hX:World.alloc _ _=X;have bt:=aX hX;have bE:=aL hX;have f:gX X (av X) (Hx (ns l j)) none 0 MA mn FA fn:=by
      have aj:∀b,fresh V.drew aO b->X.heap[b]?=aO.heap[b]?:=λb O=>bt.block b O.2 λh=>h;have hm:∀b,fresh V.drew aO b->av X b:=λb O=>M0 O.2 bt.size;exact Ba
     have aP:=ah f (H1.2.trans bt);obtain⟨b0,a8,bw⟩:=bE.two;clear hX bt bE f;go_wp2_with(fail);refine(xm (Hx (ns l j)) (IL ub (by rw[j0];exact b7.o)) none 0 0 MA mn mc FA fn fc X aP.1).mono ?_;rintro e aW ⟨GA,gn,gc,R,aU,aq,PA,pn,pc,rfl,bD,a7⟩;have b1:=ah bD (aP.2.trans a7);have bO:=a7.size;clear bD a7 b0 a8 bw;go_upto_region 18 with(fail);exact Ce
theorem uL:(fa (bq u s)).length<=s.threads.length:=by
 unfold fa;refine Nl (List.length_filter_le _ _) ?_;simp[fb]
theorem Fb(A:NH)(n c:Nat)(L:List Int)(x:Int)(w:World)(h:cp (EF bQ) 1 w w.heap.size A n L)(hn:n<=1000000) :
  Calls prog 13 #[.slice A n c,x] w λe ab=>e=.returned (.bool (decide (x∈L)))/\w=ab:=by
 have H:=ae h;clear h;go_enter func13,ntmps13;go_wp2
 go_loop [5] (λi=>∃k:Nat,k<=n/\i=.int .i64 k/\∀(j:Nat) (y:Int),j<k->L[j]?=some y->y≠x) (λi=>n - (intOf i).toNat)
 case atStart=>exact⟨0,Nq _,rfl,λj x h=>ad⟩
 case round=>
  obtain⟨k,aj,rfl,bl⟩:=hrel;have b7:=ae bl;clear bl;by_cases ap:k<n
  .obtain⟨b,o,y,rfl,O,hx,hc⟩:=H.int ap;have aP:=ae hx;clear hx;by_cases hs:y=x
   .subst hs;go_wp2;go_ret;exact⟨ret_bool (by simpa using (M4 aP.o)),rfl⟩
   .have q:(y == x)=false:=by simpa using hs
    have bH:=ae hs;clear hs;go_wp2
    go_round
    case rel=>exact⟨k+1,ad,by go_num,λj z bi bb=>by
     by_cases aw:j=k
     .subst aw;rw[aP.o] at bb;injection bb with bb;subst bb;exact bH.o
     .exact b7.o j z ad bb⟩
    case measure=>exact aH
  .have ce:k=n:=ad;have cT:=ae ce;clear ce;go_wp2;go_ret;exact⟨ret_bool (by
    symm
    rw[decide_eq_false_iff_not];intro hm;obtain⟨j,bi⟩:=List.mem_iff_getElem?.1 hm;exact b7.o j x (by have:=(List.getElem?_eq_some_iff.1 bi).1;have:=H.1;have:=cT.o;omega) bi rfl),rfl⟩
theorem cp.Jr{B b o:Nat}{L:List Int}(h:cp (EF bQ) 1 w B (some ⟨b,o,none⟩) n L){x:Int}(aj:L[k]?=some x):w.cell? ⟨b,o+k,none⟩=some (.int .i64 x):=by
 obtain⟨ct,da,y,bF,_,bb,hc⟩:=h.int (k:=k) (by have:=(List.getElem?_eq_some_iff.1 aj).1;have:=h.1;omega);injection bF with bF;injection bF with ac az;subst ac az;rw[aj] at bb;injection bb with bb;rw[bb];exact hc
theorem KR{p:bO}{A:NH}{c:Nat}(h:(dg p).rep w (av w) [.bool p.param,.int .i64 p.index,.slice A n c]):
  (p.at_=none/\n=0)\/∃e b o b0 Z a9 H,p.at_=some e/\n=1/\A=some ⟨b,o,none⟩/\b<w.heap.size/\e.at_ w [b0,Z,a9,H]/\w.cell? ⟨b,o,none⟩=some b0/\w.cell? ⟨b,o+1,none⟩=some Z/\w.cell? ⟨b,o+2,none⟩=some a9/\w.cell? ⟨b,o+3,none⟩=some H:=by
 obtain⟨A2,n2,c2,e,_,hs⟩:=dK.1 h;simp only[List.cons.injEq,and_true,true_and] at e;injection e with b3 co bx;subst b3 co bx
 cases hp:p.at_ with
 | none=>exact .inl ⟨rfl,by have:=hs.1;rw[hp] at this;simpa using this.symm⟩
 | some v=>
  rw[hp] at hs;have hn:n=1:=by have:=hs.1;simpa using this.symm
  subst hn;obtain⟨b,o,x,cs,rfl,O,hx,ba,aI,hc⟩:=Sl.g1 (l:=[v]) (enc:=bo) hs c7 (k:=0) ad;obtain rfl:v=x:=by simpa using hx
  match cs,aI with
  | [b0,Z,a9,H],_=>
   refine .inr ⟨v,b,o,b0,Z,a9,H,rfl,rfl,rfl,O,jO v _ ba,?_,?_,?_,?_⟩
   .simpa using hc 0 _ rfl
   .simpa using hc 1 _ rfl
   .simpa using hc 2 _ rfl
   .simpa using hc 3 _ rfl
theorem sL{t:Int}{S:World}{p:UV}{q:SV}{r:Int×Int}(h:kP u s N S p q)(aF:Ext S w)(hw:gr u s t=some r):
  Calls prog 7 #[.agg (p.val u),.agg (q.val s),t] w λe ab=>∃(x:aA) (v:IV),e=.returned (.tuple #[.agg (v.val x),true])/\dC u s t=some x/\(∃nl nk:Int,cK (bg u) nl nk x.place)/\v.Ok S x/\Ext w ab:=by
 obtain⟨f,a9,y,U,cp,_⟩:=jh hw;obtain⟨cq,x,n,aB⟩:=jJ.of h.hU h.hS h.hN y;rw[aB] at U;injection U with U;subst U;have aN:Gy u s t f cq x w p q:=⟨n.sm,n.ht,n.hp,n.hx,n.hF.proc,n.pc.1,n.il,n.kl,h.u.on aF,h.s.on aF⟩
 obtain⟨len,_,aj⟩:=n.ok;have bo:cK (bg u) cq.locals cq.az x.place:=by
  rcases aj with⟨ac,_⟩|⟨ac,_⟩|⟨ac,_,az⟩|⟨ac,_⟩|⟨ac,_⟩|⟨ac,_⟩
  .omega
  .omega
  .exact az
  .omega
  .omega
  .omega
 exact(q9 u s t f cq x S w p q aN h.u aF).mono λe ab ⟨v,h,bK,he⟩=>⟨x,v,h,aB,⟨_,_,bo⟩,bK,he⟩
def JY(w wr:World)(g:Nat)(u:aw)(D:List Int)(N:Nat):Prop:=∃(s:ai) (q:SV),aP u N s/\q.Is wr (λb=>b≠g/\b≠g+1/\b<wr.heap.size) s/\Fr (λb=>b=g+1) w wr/\an wr (g+1) 30 #[.slice q.GA q.gn q.gc,.slice q.TA q.tn q.tc,.slice q.HA q.hn q.hc,.int .i64 s.fault]/\(s.fault≠0\/eZ u s D)
theorem JY.on{Z W:World}{D:List Int}(h:JY w Z g u D N)(he:Ext Z W):JY w W g u D N:=by
 obtain⟨s,q,hS,bv,hF,aT,cf⟩:=h;exact⟨s,q,hS,(bv.ak λb O=>he.block b O.2.2 λh=>h).mono λb O=>⟨O.1,O.2.1,by have:=he.size;omega⟩,hF.trans (he.mono λ_ h=>h.elim),aT.aj he,cf⟩
theorem F6{D:List Int}(hU:cT u)(hS:aP u N s)(h:s.fault≠0\/eZ u s D)(t:Int):(bT u s t).1.fault≠0\/eZ u (bT u s t).1 D:=by
 by_cases J:(bT u s t).1.fault=0
 .rcases h with h|h
  .rw[uU h] at J ⊢;exact .inl h
  .exact .inr (h.step hU hS t J)
 .exact .inl J
theorem F5{D:List Int}(hU:cT u)(hS:aP u N s)(h:s.fault≠0\/eZ u s D){t:Int}(ht:t∈D):zC u s t=false/\(s.fault=0->t∈fa (bq u s)):=by
 rcases h with h|h
 .exact⟨tB h,λh0=>absurd h0 h⟩
 .obtain⟨e,o,hs,_⟩:=h t ht;exact⟨nz hs.waits,λ_=>h.dead hU hS ht⟩
namespace Ep
theorem wK(h:p:=by
 refine aE rfl (λK hK=>?_);go_simp;refine dB hK NC ?_;clear hK K;refine cN rfl (by rfl) ?_
 try simp only[PU]
 iterate 2 refine pf ?_
 exact AA
 ):p:=h
theorem c4(h:p:=by
 generalize cA:World.setCell _ _ _=Z;obtain⟨bm,bd,a4⟩:=a9 (w:=w) [.slice di cL dT,.slice aV gw s2,.slice dq v2 cB,.int .i64 bb.fault] (by rfl) (bH.2.2.1.aj bW.2.2.2) (bH.2.2.2.2.1.trans bW.2.2.2) ad cA;have cY:=a4.size;have db:wr.drew.heap.size=wr:=rfl;have aa:=(bH.2.1.trans (bW.2.2.2.mono λ_ h=>h.elim)).trans a4;have bz:=(bH.2.2.2.2.2.trans (bW.2.2.2.mono λ_ h=>h.elim)).trans a4;have eE:=(bW.1.ak λb O=>a4.block b (by rcases O with h|h;exact h.elim;omega) (by rcases O with h|h;exact h.elim;omega)).mono λb (O:nC b\/_)=>show b≠aO.heap.size/\b≠aO.heap.size+1/\b<Z.heap.size by rcases O with h|h;exact h.elim;omega
 have dL:JY cJ Z aO.heap.size u cy (60+(i2+1)):=⟨bb,⟨di,cL,dT,aV,gw,s2,dq,v2,cB⟩,bW.2.1,eE,aa,bm,bW.2.2.1⟩
 have cv:kP u bb (60+(i2+1)) Z ⟨GA,gn,gc,MA,mn,mc,PA,pn,pc⟩ ⟨di,cL,dT,aV,gw,s2,dq,v2,cB⟩:=⟨bB.1,bW.2.1,ad,cT.o Z bz,eE.ok λb O=>O.2.2⟩
 have bj:=cQ cv dL bd (bB.2.2.2.1.on bz ad) bm;have dh:=ae (And.intro (show ∀b o,cR=some ⟨b,o,none⟩->0<N->b<cJ.heap.size/\b≠aO.heap.size+1/\∀k x,cy[k]?=some x->Z.cell? ⟨b,o+k,none⟩=some (.int .i64 x) from λb o h hf=>by
  subst h;obtain⟨ct,da,y,bF,O,_,_⟩:=ak.2.1.int hf;injection bF with bF;injection bF with e1 e2;subst e1 e2;have d3:=cF.o b o rfl;exact⟨O,ad,λk x aj=>(aa.cell (j:=o+k) O ad).trans (ak.2.1.Jr aj)⟩) aa)
 clear cA bm bd a4 aa bz eE dL cv ci aH aK;obtain⟨b0,a8,bw⟩:=bj.2.2.2.1.two;obtain⟨ci,aH,aK⟩:=bj.2.2.2.2.two;go_wp2_with(fail);refine(IH u bb (60+(i2+1)) Z ⟨GA,gn,gc,MA,mn,mc,PA,pn,pc⟩ ⟨di,cL,dT,aV,gw,s2,dq,v2,cB⟩ bj.1).mono ?_;rintro e gU ⟨de,gr,rfl,_,bS,cK⟩;have b2:=ah bS cK;clear b0 a8 bw ci aH aK;clear bS cK;have bV:(fa (bq u bb)).length<=32:=Nl uL bW.2.1.Ag.2;have cW:=ae λ(t:Int) ht=>F5 bB.1.ok bW.2.1 bW.2.2.1 (t:=t) ht;generalize fa (bq u bb)=dN at *;generalize cE:dN.length=M2 at *;clear cE;go_wp2_with(fail);go_loopw [20] (λb5 hT=>∃k:Nat,b5=.int .i64 k/\k<=N/\Ext gU hT) (λb5 _=>N - (intOf b5).toNat)
 case atStart=>exact⟨0,rfl,ad,NC⟩
 case round=>
  obtain⟨cS,rfl,ed,ce⟩:=hrel;have cz:=ay (b2.2.trans ce) (b2.1.cD (Fr.ext ce) ce.size) ce;clear ce;by_cases cn:cS<N
  .have c7:(cS:Int)<(N:Int):=ad;obtain⟨b4,o4,t4,rfl,dp,c8,_⟩:=ak.2.1.int cn;obtain⟨bE,dm,dr⟩:=dh.1 b4 o4 rfl ad;have dG:=dh.2.size;have aL:b4<Z:=ad;have bs:=(cz.1.cell (j:=o4+cS) aL λh=>h).trans (dr cS t4 c8);have aX:=M0 aL cz.1.size;have df:=ae (cW.o t4 (M4 c8));clear c8 dr dp bE dm dG aL;obtain⟨b0,a8,bw⟩:=(bj.2.2.2.1.aj cz.1).two;obtain⟨ci,aH,aK⟩:=(bj.2.2.2.2.aj cz.1).two;go_upto_region 22 with(fail);refine eJ (λ_=>False) [(0,0),(1,0),(2,3),(3,3),(4,3),(5,0),(6,1),(7,3),(8,3),(9,0),(10,3),(11,3),(12,3),(13,3),(14,3),(15,3),(16,0),(17,1),(18,3),(19,3),(20,3)] ?_
   iterate 2 refine ph ?_
   iterate 3 refine pf ?_
   refine ph ?_;refine aE rfl (λK hK=>?_);go_simp;refine(enabled_any false u bb t4 (60+(i2+1)) wr.drew ⟨GA,gn,gc,MA,mn,mc,PA,pn,pc⟩ ⟨di,cL,dT,aV,gw,s2,dq,v2,cB⟩ (bj.1.on cz.1.drew)).mono ?_;rintro e hl ⟨rfl,aF⟩;rw[df.1];have af:=Fr.aF aF;have bu:=ay (cz.1.trans af) (cz.2.1.cD (Fr.ext af) af.size) (cz.2.2.trans af);have q5:=(af.cell (j:=o4+cS) aX λh=>h).trans bs;have dR:=M0 aX af.size;refine dB hK (aF) ?_;clear hK K;clear aF af bs aX;clear b0 a8 bw ci aH aK;obtain⟨ci,aH,aK⟩:=(bj.2.2.2.2.aj bu.1).two;by_cases J:bb.fault=0
   .have cH:(bb.fault == 0)=true:=by simpa using J
    have dx:=ae (df.2 J);clear J
    iterate 2 refine pf ?_
    refine K6 ?_
    iterate 6 refine pf ?_
    refine K6 ?_;refine aE rfl (λK hK=>?_);go_simp;refine(Fb de M2 gr dN t4 hl bu.2.1 ad).mono ?_;rintro e aC ⟨rfl,rfl⟩;rw[decide_eq_true dx.o];refine dB hK NC ?_;clear hK K
    iterate 3 refine pf ?_
    exact AA
   .have cH:(bb.fault == 0)=false:=by simpa using J
    clear J
    iterate 2 refine pf ?_
    refine K6 ?_
    iterate 2 refine pf ?_
    refine cN rfl (by rfl) ?_;exact wJ
  .have c7:¬(cS:Int)<(N:Int):=ad;go_wp2_with(fail);go_roundw
   case rel=>exact⟨i2+1,by go_num,ad,bj.2.1.on cz.1⟩
   case measure=>simp[intOf]<;>omega
 ):p:=h
theorem fC(h:p:=by
 refine tf ?_;refine cj ?_;generalize cl:World.setCell _ _ _=Z;obtain⟨bm,bd,a4⟩:=a9 (w:=wr) [.int .i64 eO.op,.int .i64 eO.target,.bool eO.du,eo,en,es,.slice EA em ec,.bool eO.place.param,.int .i64 eO.place.index,.slice b9 dM zc,.slice IA dS ic,.slice KA el kc] (by rfl) cc.1.2 cc.1.1 fg cl;have bj:=ay bd (bk.2.1.trans bd) (bk.2.2.trans bd);have ds:=(D.on cc.2.2.2.place (Fr.ext bd):(dg eO.place).rep Z (av Z) [.bool eO.place.param,.int .i64 eO.place.index,.slice b9 dM zc])
 clear v0 a1 dd cl bd a4;obtain⟨v0,a1,dd⟩:=bm.two;have dA:=ae (KR ds);clear ds;rcases dA.o with⟨Q,bJ⟩|⟨dJ,pb,gR,e0,e1,e2,e3,g,aU,dI,bl,I,f0,f1,f2,f3⟩
 .subst bJ;have aY:=ae Q;clear Q;go_wp2_with(fail);go_roundw
  case rel=>exact⟨i+1,by go_num,ad,bj.2.2,λj t2 bi bG x v U aw=>by
   by_cases z:j=i
   .subst z;obtain rfl:t=t2:=by have:=bZ.2;rw[this] at bG;injection bG
    rw[cc.2.1] at U;injection U with U;subst U;rw[aY.o] at aw;cases aw
   .exact bn.o j t2 ad bG x v U aw⟩
  case measure=>simp[intOf]<;>omega
 .subst aU dI;have ca:∃nl:Int,fW (bg u) nl dJ:=by
   obtain⟨nl,nk,aj⟩:=cc.2.2.1;rcases aj with⟨_,_,_,h⟩|⟨_,m,_,_,ac,az⟩
   .rw[h] at g;cases g
   .by_cases hm:0<m.size
    .obtain⟨e,he,bD⟩:=ac hm;rw[he] at g;injection g with g;subst g;exact⟨nl,bD⟩
    .rw[az hm] at g;cases g
  have aA:=ay g ca I;clear g ca I;go_wp2_with(fail);obtain⟨nl,cD⟩:=aA.2.1;refine(ki (ng:=(bg u).ng) (nl:=nl.toNat) dJ Z e0 e1 e2 e3 cD.1 aA.2.2).mono ?_;rintro e gP ⟨rfl,bL⟩;obtain⟨ck,fk⟩:∃ck,ik dJ=ck:=⟨_,rfl⟩
  have dy:=ae fk;rw[fk];have al:=ah (bj.2.1.trans bL) (bj.2.2.trans bL);clear fk cD bL v0 a1 dd f0 f1 f2 f3 bl bm;cases ck
  .go_wp2_with(fail);go_roundw
   case rel=>exact⟨i+1,by go_num,ad,al.2,λj t2 bi bG x v U aw=>by
   by_cases z:j=i
   .subst z;obtain rfl:t=t2:=by have:=bZ.2;rw[this] at bG;injection bG
    rw[cc.2.1] at U;injection U with U;subst U;rw[aA.1] at aw;injection aw with aw;subst aw;exact m2 _ dy.o
   .exact bn.o j t2 ad bG x v U aw⟩
   case measure=>simp[intOf]<;>omega
  ·
   go_wp2_with(fail);refine(yF gP).mono ?_;rintro e dK ⟨rfl,aF⟩;have cP:=ae ((bB.2.2.1.trans al.1).trans aF);clear aF;go_wp2_with(fail);go_ret;exact⟨rfl,Fr.ext cP.o⟩
 ):p:=h
end Ep
open Ep in
theorem waitsForEver_any(A B C:NH)(n c m d k c3:Nat)(l ai r:List Int)(rg:Bool)(cb:NH)(n4 bs:Nat)(du:List Int)(w:World)(h:cp (EF bQ) 1 w w.heap.size A n l)(hp:cp (EF bQ) 1 w w.heap.size B m ai)(ba:cp (EF bQ) 1 w w.heap.size C k r)(dk:cp (EF bQ) 1 w w.heap.size cb n4 du)(hc:n<=c) :
  Calls prog 3 #[.slice A n c,.slice B m d,.slice C k c3,.slice cb n4 bs,rg] w λe ab=>e=.returned true/\Below w w ab:=by
 go_enter func3,ntmps3;go_wp2_with(fail);refine(Ae A B n c m d l ai w h hp hc).mono ?_;rintro e aO ⟨u,s,⟨GA,gn,gc,MA,mn,mc,PA,pn,pc⟩,⟨bI,bU,bx,TA,tn,tc,HA,hn,b8⟩,rfl,_,G,aM⟩;have H1:=ay G aM (ba.cD (Fr.ext aM) aM.size);have dF:=ae dk;clear G aM h hp ba dk;dsimp only[UV.val,SV.val];go_upto_region 2 with(fail);generalize hX:World.alloc _ _=X;have bt:=g0 hX;have bX:=e5 hX;have bh:=eT hX;have aP:=cQ (H1.1.on bt) (H1.2.1.trans bt) bX bh (H1.2.2.cD (Fr.ext bt) bt.size);have cM:=bh.lt;have mL:=(H1.2.1).size;have a6:=ae bt;clear hX bt bX bh;cases rg
 case' false=>
  go_upto_region 4 with(fail);have bB:=cQ aP.1.hU aP.1.hS aP.2.1 aP.2.2.1 aP.2.2.2.1;have cC:NJ ((⟨bI,bU,bx,TA,tn,tc,HA,hn,b8⟩:SV).Is X (λb=>b≠aO.heap.size/\b≠aO.heap.size+1/\b<X.heap.size) s):=ae (((SV.Is.ak (P:=av aO) ⟨H1.1.s.at_,H1.1.s.gc,H1.1.s.tc,H1.1.s.hc⟩ λb O=>a6.block b O λh=>h).mono λb O=>by have aZ:b<aO.heap.size:=O;omega));have cT:NJ (∀Z,Fr (λb=>b=aO.heap.size+1) X Z->(⟨GA,gn,gc,MA,mn,mc,PA,pn,pc⟩:UV).Ok Z u):=ae λZ J=>H1.1.u.on (Fr.low (M:=λb=>b=aO.heap.size+1) ((a6.mono λ_ h=>h.elim).trans J) λb O=>ad);clear aP a6;generalize X=Y at *
 case' true=>
  obtain⟨b0,a8,bw⟩:=aP.2.2.1.two;go_wp2_with(fail);refine(FQ C k c3 r X aP.2.2.2.2).mono ?_;rintro e aW ⟨u,s,⟨GA,gn,gc,MA,mn,mc,PA,pn,pc⟩,⟨bI,bU,bx,TA,tn,tc,HA,hn,b8⟩,rfl,G,a7⟩;have bO:=a7.size;have b1:=ah G a7;clear G b0 a8 bw;obtain⟨b0,a8,bw⟩:=(aP.2.2.1.aj a7).two;obtain⟨ci,aH,aK⟩:=(aP.2.2.2.1.aj a7).two;clear a7;dsimp only[UV.val,SV.val];go_upto_region 4 with(fail);generalize aF:World.setCell (World.setCell (World.setCell (World.setCell aW _ _) _ _) _ _) _ _=E;obtain⟨cx,aJ,am⟩:=a9 (w:=w) [.slice GA gn gc,.slice MA mn mc,.slice PA pn pc,.int .i64 u.main] (by rfl) (aP.2.2.1.aj b1.2) (aP.2.1.trans b1.2) ad aF;have cg:=(aP.2.2.2.1.aj b1.2).on am ad;have cw:=am.size;generalize co:World.setCell _ _ _=Y;obtain⟨bM,bA,bz⟩:=a9 (w:=w) [.slice bI bU bx,.slice TA tn tc,.slice HA hn b8,.int .i64 s.fault] (by rfl) cg aJ ad co;have cX:=bz.size;have a0:∀b,X.heap.size<=b->b<aW.heap.size->Y.heap[b]?=aW.heap[b]?:=λb ac az=>(bz.block b ad ad).trans (am.block b az ad);have a3:∀Z,Fr (λb=>b=aO.heap.size+1) Y Z->∀b,X.heap.size<=b->b<aW.heap.size->Z.heap[b]?=aW.heap[b]?:=λZ J b ac az=>(J.block b ad ad).trans (a0 b ac az);have bB:=cQ (b1.1 Y ad a0).1.hU (b1.1 Y ad a0).1.hS bA (cx.on bz ad) bM;have cC:NJ ((⟨bI,bU,bx,TA,tn,tc,HA,hn,b8⟩:SV).Is Y (λb=>b≠aO.heap.size/\b≠aO.heap.size+1/\b<Y.heap.size) s):=ae ((b1.1 Y ad a0).2.mono λb O=>ad);have cT:NJ (∀Z,Fr (λb=>b=aO.heap.size+1) Y Z->(⟨GA,gn,gc,MA,mn,mc,PA,pn,pc⟩:UV).Ok Z u):=ae λZ J=>(b1.1 Z (ax J.size) (a3 Z J)).1.u
  clear aF cx aJ am cg co bM bA bz b0 a8 bw ci aH aK aP a6 b1 a0 a3
 all_goals
  have c9:=bB.2.2.1.size;have dl:aO+1<Y.heap.size:=bB.2.2.2.2.lt;have G:kP u s 60 Y ⟨GA,gn,gc,MA,mn,mc,PA,pn,pc⟩ ⟨bI,bU,bx,TA,tn,tc,HA,hn,b8⟩:=⟨bB.1,bB.2.1,ad,cT.o Y NC,cC.ok λb O=>O.2.2⟩
  have cZ:=ae G;have c5:=(G.len).2.2;have a5:=(G.len).1;simp only at c5 a5;obtain⟨b0,a8,bw⟩:=bB.2.2.2.1.two;obtain⟨ci,aH,aK⟩:=bB.2.2.2.2.two;have d4:=uL (u:=u) (s:=s);have dw:=ae λ(x:Int) hx=>qj (u:=u) G.hS (t:=x) hx;have dv:=ae λaR=>w6 (u:=u) G.hS aR;clear G;go_wp2_with(fail);refine(su u s 60 Y ⟨GA,gn,gc,MA,mn,mc,PA,pn,pc⟩ ⟨bI,bU,bx,TA,tn,tc,HA,hn,b8⟩ cZ.o).mono ?_;rintro e b6 ⟨⟨cR,c1,rfl,_,bS,aF⟩,aQ⟩;have bN:=ah bS aF;have cF:=ae (show ∀b o,cR=some ⟨b,o,none⟩->Y.heap.size<=b from λb o h=>aQ b o _ _ (by rw[h]));clear aQ;clear b0 a8 bw ci aH aK;clear bS aF;generalize fa (bq u s)=cy at *;generalize hN:cy.length=N at *;have b7:=ae hN;clear hN;go_wp2_with(fail);go_loopw [14] (λb5 wr=>∃i:Nat,b5=.int .i64 i/\i<=N/\Ext b6 wr/\∀(j:Nat) (t:Int),j<i->cy[j]?=some t->∀x v,dC u s t=some x->x.place.at_=some v->ia v) (λb5 _=>N - (intOf b5).toNat)
  case atStart=>exact⟨0,rfl,ad,NC,λj t h=>ad⟩
  case round=>
   obtain⟨i,rfl,aN,aF,gx⟩:=hrel;have bk:=ay (bN.1.cD (Fr.ext aF) aF.size) (bN.2.trans aF) aF;have bn:=ae gx;clear aF gx;by_cases ap:i<N
   .have cU:(i:Int)<(N:Int):=ad;obtain⟨b,o,t,rfl,ao,hx,c0⟩:=bk.1.int ap;obtain⟨dZ,d5,hw,_,_⟩:=dw.o t (M4 hx);have bZ:=ah hw hx;clear hx hw;obtain⟨b0,a8,bw⟩:=(bB.2.2.2.1.aj bk.2.1).two;obtain⟨ci,aH,aK⟩:=(bB.2.2.2.2.aj bk.2.1).two;go_upto_region 8 with(fail);refine sK (λ_=>False) [11] (.held 0 (.held 1 (.free 2 (.free 3 (.free 4 (.held 5 (.pick [6,10] (λi=>bif i == 6 then .free 7 (.free 8 (.free 9 (.pick [10] (λ_=>.pick [11] (λ_=>.free 12 (.stop)))))) else .pick [6] (λ_=>.free 7 (.free 8 (.free 9 (.pick [11] (λ_=>.free 12 (.stop)))))))))))))) ?_
    iterate 2 refine th ?_
    iterate 3 refine tf ?_
    refine th ?_;refine a2 ?_ ?_
    focus
     refine aD rfl (λK hK=>?_) rfl;go_simp;refine(sL (cZ.on bk.2.1) NC.drew bZ.1).mono ?_;rintro e cV ⟨eO,⟨eo,en,es,EA,em,ec,b9,dM,zc,IA,dS,ic,KA,el,kc⟩,rfl,aB,dj,bK,aF⟩;dsimp only[IV.val];refine dB hK (aF) ?_;clear hK K
     iterate 3 refine tf ?_
     refine aq ?_;refine ep ?_;refine bf (λV=>Ext wr V/\an V cV 42 #[(0:Int),(0:Int),false,(0:Int),(0:Int),NF,(),false,(0:Int),(),(),()]) ⟨(Fr.aF aF).alloc _,ND⟩ (λV hV=>?_);have fg:wr<=cV.heap.size:=(Fr.aF aF).size;generalize cV.heap.size=dP at *
    rotate_left
    focus
     refine ep ?_;refine bf (λV=>Ext wr V/\an V wr 42 #[(0:Int),(0:Int),false,(0:Int),(0:Int),NF,(),false,(0:Int),(),(),()]) ⟨(NC.alloc _).drew,ND⟩ (λcO c2=>?_);refine aq ?_;refine aD rfl (λK hK=>?_) rfl;go_simp;refine(sL (cZ.on bk.2.1) c2.1 bZ.1).mono ?_;rintro e cV ⟨eO,⟨eo,en,es,EA,em,ec,b9,dM,zc,IA,dS,ic,KA,el,kc⟩,rfl,aB,dj,bK,aF⟩;dsimp only[IV.val];refine dB hK (aF) ?_;clear hK K
     iterate 3 refine tf ?_
     refine bf (λV=>Ext wr V/\an V wr 42 #[(0:Int),(0:Int),false,(0:Int),(0:Int),NF,(),false,(0:Int),(),(),()]) ⟨c2.1.trans aF,c2.2.aj aF⟩ (λV hV=>?_);generalize dV:wr.heap.size=dP at hV ⊢;have fg:wr<=dP:=ad;clear dV
    all_goals
     obtain⟨v0,a1,dd⟩:=hV.2.two;have cc:=br hV aB dj bK;clear hV aB dj bK aF b0 a8 bw ci aH aK c0;exact fQ
   .have cU:¬(i:Int)<(N:Int):=ad;have cf:s.fault≠0\/eZ u s cy:=.inr (dv.o λt ht x v hx bK=>by
     obtain⟨j,bi⟩:=List.mem_iff_getElem?.1 ht;exact bn.o j t (by have:=(List.getElem?_eq_some_iff.1 bi).1;have:=b7.o;omega) bi x v hx bK)
    have aS:=ae cf;clear cf;go_wp2_with(fail);have aI:=bB.2.2.1.trans bk.2.1;refine(sG cb n4 bs 40 du wr (dF.cD (Fr.ext aI) aI.size) ad).mono ?_;rintro e cJ ⟨cu,dX,rfl,bo,bc,cd,aQ⟩;have hlen:(bR du 40).length<=40:=by unfold bR;rw[M5,List.length_take];omega
    generalize bR du 40=L at *;generalize dE:L.length=n3 at *;have T:=lj cd;have d0:=bk.2.1.size;have dz:=ae (show ∀b o,cu=some ⟨b,o,none⟩->aO.heap.size+1<b from λb o h=>by have:=aQ b (by rw[h];rfl);omega);have ak:=ay (show cp (EF bQ) 1 cJ cJ.heap.size cu n3 L from bc) (bk.1.cD (Fr.ext T) T.size) (bk.2.1.trans T);have d1:=ak.2.2.size;have bY:JY cJ cJ aO u cy 60:=⟨s,⟨bI,bU,bx,TA,tn,tc,HA,hn,b8⟩,bB.2.1,(cC.ak λb O=>ak.2.2.block b O.2.2 λh=>h).mono λb O=>ad,NC,bB.2.2.2.2.aj ak.2.2,aS.o⟩
    have dc:=ae bY;clear bY bc cd aQ T dE aI bk bn aS;go_wp2_with(fail);go_loopw [18] (λb5 gP=>∃i:Nat,b5=.int .i64 i/\i<=n3/\JY cJ gP aO.heap.size u cy (60+i)) (λb5 _=>n3 - (intOf b5).toNat)
    case atStart=>exact⟨0,rfl,ad,dc.o⟩
    case round=>
     obtain⟨i2,rfl,fn,S,⟨QA,cq,qc,cr,cI,rc,be,bp,bC⟩,hS,bv,hF,aT,cf⟩:=hrel;have dD:=hF.size;have bz:Fr (λb=>b=aO.heap.size+1) Y wr:=(ak.2.2.mono λ_ h=>h.elim).trans hF;have R:=Fr.low (M:=λb=>b=aO.heap.size+1) ((bB.2.2.1.mono λ_ h=>h.elim).trans bz) λb O=>ad;have b3:kP u S (60+i2) wr ⟨GA,gn,gc,MA,mn,mc,PA,pn,pc⟩ ⟨QA,cq,qc,cr,cI,rc,be,bp,bC⟩:=⟨bB.1,hS,ad,cT.o wr bz,bv.ok λb O=>O.2.2⟩
     have bH:=dH b3 hF aT cf R bz;have cm:=bB.2.2.2.1.on bz ad;have dU:=ae cm;obtain⟨b0,a8,bw⟩:=cm.two;obtain⟨ci,aH,aK⟩:=aT.two;clear hS bv hF aT cf bz R b3 cm dc;by_cases cG:i2<n3
     .have c6:(i2:Int)<(n3:Int):=ad;obtain⟨ar,o3,H,rfl,dn,dt,c0⟩:=ak.1.int cG;have dO:=dz.o ar o3 rfl;have c1:=(bH.2.1.cell (j:=o3+i2) dn ad).trans c0;have dQ:ar<wr:=ad;clear dt c0;go_upto_region 17 with(fail);refine eJ (λ_=>False) [(0,0),(1,0),(2,3),(3,3),(4,3),(5,0),(6,1),(7,3),(8,3),(9,3),(10,2)] ?_
      iterate 2 refine ph ?_
      iterate 3 refine pf ?_
      refine ph ?_;refine aE rfl (λK hK=>?_);go_simp;refine(KM u S H (60+i2) wr.drew ⟨GA,gn,gc,MA,mn,mc,PA,pn,pc⟩ ⟨QA,cq,qc,cr,cI,rc,be,bp,bC⟩ bB.1 bH.1.hS ad (bH.1.on NC.drew).u (bH.1.on NC.drew).s).mono ?_;rintro e gP ⟨⟨di,cL,dT,aV,gw,s2,dq,v2,cB⟩,rfl,bv,aF⟩;have af:=Fr.aF aF;have ch:=vV bB.1.ok bH.1.hS (t:=H);have ag:=F6 bB.1.ok bH.1.hS bH.2.2.2.1 H;generalize (bT u S H).2=dW at *;generalize (bT u S H).1=bb at *;have d2:=af.size;have bW:=br bv ch ag af;dsimp only[SV.val];refine dB hK (aF) ?_;clear hK K
      iterate 3 refine pf ?_
      clear b0 a8 bw ci aH aK;obtain⟨ci,aH,aK⟩:=(bH.2.2.1.aj af).two;clear bv ch ag aF af c1;exact ew
     .have c6:¬(i2:Int)<(n3:Int):=ad;go_wp2_with(fail);refine(yF wr).mono ?_;rintro e dK ⟨rfl,aF⟩;have cP:=ae (bH.2.2.2.2.1.trans aF);clear aF;go_wp2_with(fail);go_ret;exact⟨rfl,Fr.ext cP.o⟩
end Go.Proofs.YtnigabjngpnbiabGreat
