/- Part 24 of the proof. No condition of its own. -/
import Derived.Test.YtflecliffjbleaaGreatQ19
namespace Go.Proofs.YtflecliffjbleaaGreat
open Go.RowKit Go.Proofs.Tryz
set_option maxRecDepth 1000000
set_option maxHeartbeats 25600000
set_option linter.unusedVariables false
variable{m:Nat}{p:Prop}{ac w:World}{s:ag}{u:av}
def ES(w:World)(r:Option (Int×Int))(e:Ending)(ac:World):Prop:=
 e=.returned (.tuple #[.int .i64 ((r.map Prod.fst).getD 0),.int .i64 ((r.map Prod.snd).getD 0),.bool r.isSome])/\Ext w ac
structure jT(u:av)(s:ag)(N:Nat)(w:World)(p:UV)(q:SV):Prop where
 hU:zo u
 hS:aS u N s
 hN:N<=100000
 u:p.Ok w u
 s:q.Ok w s
theorem jT.on{u:av}{s:ag}{N:Nat}{w ac:World}{p:UV}{q:SV}(h:jT u s N w p q)(he:Ext w ac):jT u s N ac p q:=⟨h.hU,h.hS,h.hN,h.u.on he,h.s.on he⟩
theorem Ex{t:Int}{f:al}{x:ay}(ht:da s t=some f)(hx:cV u s t=some x):
  (x.op≠4->cR u s t=none)/\(x.op=4->(bp u s f x.place).2≠0->cR u s t=none)/\
  (x.op=4->(bp u s f x.place).2=0->free u.ae s.table (bp u s f x.place).1 t=true->cR u s t=none)/\
  (x.op=4->(bp u s f x.place).2=0->free u.ae s.table (bp u s f x.place).1 t=false->cR u s t=some ((bp u s f x.place).1,(js s.table (bp u s f x.place).1).owner - 1)):=by
 unfold cR;rw[ht,hx];refine⟨λh=>?_,λae aD=>?_,λae aD aU=>?_,λae aD aU=>?_⟩
 .simp[h]
 .simp[ae,aD]
 .simp[ae,aD,aU]
 .simp[ae,aD,aU]
namespace BM
theorem A3(h:p:=by
 cases g:da s t with
 | none=>
  have b0:=ad (mA (u:=u) g);have L:=ad g;clear g;go_wp2_with(fail)
  first
   | refine(oq u s t W ⟨GA,gn,gc,MA,mn,mc,PA,pn,pc⟩ ⟨bM,b2,bo,TA,tn,tc,HA,hn,hc⟩ aH.2.2.2.s L.o).mono ?_
   | refine(kV u s t W ⟨GA,gn,gc,MA,mn,mc,PA,pn,pc⟩ ⟨bM,b2,bo,TA,tn,tc,HA,hn,hc⟩ aH.2.2.2.s L.o).mono ?_
  rintro e aP ⟨rfl,aF⟩;have bs:=ad (aH.1.trans aF);clear a0 ap aj a3 am aJ aF;go_wp2_with(fail)
  go_ret3
  exact⟨by rw[b0.o];rfl,bs.alloc _⟩
 | some f=>
  obtain⟨Q,x,l,o⟩:=lI.of cr.hU cr.hS cr.hN g;have m:=ad (Ex g o);have i:=ad l;clear g o l;go_wp2_with(fail)
  first
   | refine(ot u s t f Q x W ⟨GA,gn,gc,MA,mn,mc,PA,pn,pc⟩ ⟨bM,b2,bo,TA,tn,tc,HA,hn,hc⟩ ⟨i.sm,i.ht,i.hp,i.hx,i.hF.proc,i.pc.1,i.il,i.kl,aH.2.2.2.u,aH.2.2.2.s⟩).mono ?_
   | refine(kW u s t f Q x W ⟨GA,gn,gc,MA,mn,mc,PA,pn,pc⟩ ⟨bM,b2,bo,TA,tn,tc,HA,hn,hc⟩ ⟨i.sm,i.ht,i.hp,i.hx,i.hF.proc,i.pc.1,i.il,i.kl,aH.2.2.2.u,aH.2.2.2.s⟩).mono ?_
  rintro e aP ⟨⟨eo,en,es,EA,em,ec,QA,qm,qc,c5,j,cU,KA,cB,kc⟩,rfl,bD,aF⟩;have cv:=ah bD aF;clear a0 ap aj a3 am aJ bD aF;dsimp only[IV.val];go_upto_region 2 with(fail);generalize hV:World.alloc _ _=V;have bd:=bb hV;have c8:=aT hV;have bm:Ext W V:=cv.2.trans bd;have cE:=aH.2.2.1.lt;have cW:=cv.2.size;have b4:=ad bm;have P:=ad (cv.1.on bd).place;have b6:=ad c8;obtain⟨a0,ap,aj⟩:=(aH.2.1.aj bm).two;obtain⟨a3,am,aJ⟩:=(aH.2.2.1.aj bm).two;obtain⟨d0,af,aS⟩:=c8.two;clear hV bm bd c8 cv;by_cases aG:x.op=4
  case neg=>
   have q1:(x.op != 4)=true:=by simpa using aG
   have b0:=ad (m.1 aG);clear aG m;go_wp2_with(fail)
   go_ret3
   exact⟨by rw[b0.o];rfl,aH.1.trans b4.o⟩
  have q1:(x.op != 4)=false:=by simpa using aG
  have bf:cI (bj u) Q.locals Q.aw x.place:=by
   obtain⟨len,_,ak⟩:=i.ok;exact zF
  have au:=i.hS.zi;obtain⟨bL,cY,bv,_⟩:=i.th;have bi:t<=1000:=ab;have ce:=iu (s:=s) (nl:=Q.locals) (nk:=f.aw.length) i.hU.ok i.hF (Int.le_refl _) (by rw[i.hF.wx i.hp];exact bf);have aK:=aL ce.2 bf (i.hS.tok cr.hN);have y:=aL (m.2.1 aG) (m.2.2.1 aG) (m.2.2.2 aG);clear aG m bf ce au bL cY bv;go_wp2_with(fail)
  first
   | refine(wz u s t f x.place N V ⟨GA,gn,gc,MA,mn,mc,PA,pn,pc⟩ ⟨bM,b2,bo,TA,tn,tc,HA,hn,hc⟩ QA qm qc ⟨i.hU.ok,i.hS,i.sm,i.ht,⟨Q,i.hp,aK.2.1⟩,aH.2.2.2.u.on b4.o,aH.2.2.2.s.on b4.o,P.o⟩).mono ?_
   | refine(mq u s t f x.place N V ⟨GA,gn,gc,MA,mn,mc,PA,pn,pc⟩ ⟨bM,b2,bo,TA,tn,tc,HA,hn,hc⟩ QA qm qc ⟨i.hU.ok,i.hS,i.sm,i.ht,⟨Q,i.hp,aK.2.1⟩,aH.2.2.2.u.on b4.o,aH.2.2.2.s.on b4.o,P.o⟩).mono ?_
  rintro e aV ⟨rfl,a9⟩;rw[jV i.ht];have a2:Ext V aV:=Fr.of a9;have bN:=ah aK.1 y.o;generalize bp u s f x.place=R at *;obtain⟨aQ,z⟩:=R;have r:=(aH.1.trans b4.o).trans a2;have n:=bG r ((aH.2.2.2.on b4.o).on a2) ((aH.2.1.aj b4.o).aj a2) ((aH.2.2.1.aj b4.o).aj a2);clear a0 ap aj a3 am aJ d0 af aS a9 y;obtain⟨a0,ap,aj⟩:=n.2.2.1.two;obtain⟨a3,am,aJ⟩:=n.2.2.2.two;clear a2 r;by_cases ba:z=0
  case neg=>
   have cp:(z != 0)=true:=by simpa using ba
   have b0:=ad (bN.2.1 ba);clear ba bN;go_wp2_with(fail)
   go_ret3
   exact⟨by rw[b0.o];rfl,n.1⟩
  have cp:(z != 0)=false:=by simpa using ba
  have aO:=bN.1 ba;simp only at aO;have a6:=mb i.hU.ok;have bF:aQ<=5000:=ab;have v:=aO.1;have F:=ad aO;have U:=ah (bN.2.2.1 ba) (bN.2.2.2 ba);clear ba aO a6 bN;go_wp2_with(fail)
  first
   | refine(Dt MA TA mn mc tn tc u.ae s.table aQ t aV n.2.1.u.at_.m.rr i.hU.ok.EH n.2.1.s.at_.t.holds aK.2.2 ab ab).mono ?_
   | refine(ow MA TA mn mc tn tc u.ae s.table aQ t aV n.2.1.u.at_.m.rr i.hU.ok.EH n.2.1.s.at_.t.holds aK.2.2 ab).mono ?_
  rintro e b3 ⟨rfl,aA⟩;have bu:Ext aV b3:=Fr.of aA;have bX:=ah (n.1.trans bu) (n.2.1.on bu);have bW:=n.2.2.2.aj bu;clear a0 ap aj a3 am aJ aA bu;obtain⟨a3,am,aJ⟩:=bW.two;clear bW
  cases H:free u.ae s.table aQ t with
  | true=>
   have b0:=ad (U.1 H);clear H U;go_wp2_with(fail)
   go_ret3
   exact⟨by rw[b0.o];rfl,bX.1⟩
  | false=>
   have hF:=U.2 H;obtain⟨k,rfl⟩:=Lg v;have ai:k<tn:=by
    have ae:=bX.2.s.at_.t.1;have aD:=bX.2.hS.table;have aU:=eS u.ae;have a1:=F.o;simp only[Lf] at ae;omega
   obtain⟨G,to,hd,rfl,al,hx,c0,c1⟩:=bX.2.s.at_.t.holds.hold ai;have bE:=(bX.2.hS.holds k hd hx).owner;have au:=bX.2.hS.zi;have ax:IntKind.i64.wrap (hd.owner - 1)=hd.owner - 1:=IntWalk.i64_in _ ab;have E:(js s.table (k:Int)).owner=hd.owner:=by simp[js,hx]
   rw[E] at hF;have b0:=ad hF;have co:=ah ai ax;have ci:(k:Int)<(tn:Int):=ab;have bw:(0:Int)<=(k:Int):=ab;clear H U hF bE au E hx ai ax;go_upto_region 7 with(fail);refine eU (λ_=>False) [(0,3),(1,3),(2,0),(3,3),(4,3),(5,3),(6,0),(7,3),(8,3),(9,3),(10,3)] ?_
   iterate 2 refine pf ?_
   refine ph ?_
   iterate 3 refine pf ?_
   refine ph ?_
   iterate 4 refine pf ?_
   refine aB ?_;go_wp2_with(fail)
   go_ret3
   exact⟨by rw[b0.o];simp[co.2],bX.1.drew⟩
 ):p:=h
theorem jg(h:p:=by
 have cr:=ad h;clear h;dsimp only[UV.val,SV.val];cases b
 all_goals
  simp only[cond_true,cond_false]
  first
   | go_enter func17,ntmps17
   | go_enter func73,ntmps73
  exact A1
 ):p:=h
end BM
open BM in
theorem waiting_any(b:Bool)(u:av)(s:ag)(t:Int)(N:Nat)(w:World)(p:UV)(q:SV)(h:jT u s N w p q) :
  Calls prog (bif b then 73 else 17) #[.agg (p.val u),.agg (q.val s),.int .i64 t] w (ES w (cR u s t)):=by
 exact jf
theorem instr_any(b:Bool)(u:av)(s:ag)(t:Int)(N:Nat)(w:World)(p:UV)(q:SV)(h:jT u s N w p q) :
  Calls prog (bif b then 26 else 39) #[.agg (p.val u),.agg (q.val s),.int .i64 t] w λe ac=>
   ∃(x:ay) (v:IV),e=.returned (.tuple #[.agg (v.val x),.bool (cV u s t).isSome])/\Ext w ac:=by
 cases g:da s t with
 | none=>
  rw[kN g];cases b
  .exact(oq u s t w p q h.s g).mono λe ac h=>⟨⟨0,0,false,none,⟨false,0,none⟩,[],[]⟩,⟨0,0,⟨#[]⟩,none,0,0,none,0,0,none,0,0,none,0,0⟩,h.1,h.2⟩
  .exact(kV u s t w p q h.s g).mono λe ac h=>⟨⟨0,0,false,none,⟨false,0,none⟩,[],[]⟩,⟨0,0,⟨#[]⟩,none,0,0,none,0,0,none,0,0,none,0,0⟩,h.1,h.2⟩
 | some f=>
  obtain⟨Q,x,l,o⟩:=lI.of h.hU h.hS h.hN g;rw[o];have ak:G5 u s t f Q x w p q:=⟨l.sm,l.ht,l.hp,l.hx,l.hF.proc,l.pc.1,l.il,l.kl,h.u,h.s⟩
  cases b
  .exact(ot u s t f Q x w p q ak).mono λe ac ⟨v,h,_,he⟩=>⟨_,_,h,he⟩
  .exact(kW u s t f Q x w p q ak).mono λe ac ⟨v,h,_,he⟩=>⟨_,_,h,he⟩
namespace BN
theorem A3(h:p:=by
 go_wp2_with(fail)
 first
  | refine(ct.o false W aH.2.2.2).1.mono ?_
  | refine(ct.o true W aH.2.2.2).1.mono ?_
 rintro e aP ⟨x,⟨eo,en,es,EA,em,ec,QA,qm,qc,c5,j,cU,KA,cB,kc⟩,rfl,aF⟩;dsimp only[IV.val];generalize ak:(cV u s t).isSome=i;obtain⟨k,bs⟩:=aM ak aF;clear a0 ap aj a3 am aJ aF ak;go_upto_region 2 with(fail);generalize hV:World.alloc _ _=V;have bm:Ext W V:=hV▸bs.alloc _;have ch:=ah (aH.1.trans bm) (aH.2.2.2.on bm);obtain⟨a0,ap,aj⟩:=(aH.2.1.aj bm).two;obtain⟨a3,am,aJ⟩:=(aH.2.2.1.aj bm).two;clear hV bm;go_wp2_with(fail)
 first
  | refine(ct.o false V ch.2).2.mono ?_
  | refine(ct.o true V ch.2).2.mono ?_
 rintro e aV ⟨rfl,a2⟩;have a7:=ad (ch.1.trans a2);have f:vo u s t=(i && (cR u s t).isNone):=by rw[<-k.o];rfl
 have a9:(cR u s t).isNone=!(cR u s t).isSome:=by cases cR u s t<;>rfl
 rw[a9] at f;generalize cR u s t=r at *;have g:=ad f;clear a0 ap aj a3 am aJ a2 f a9;cases i<;>cases r<;>(go_wp2_with(fail);go_ret;exact⟨by rw[g.o];rfl,a7.o⟩)
 ):p:=h
theorem jg(h:p:=by
 have cr:=ad h;have ct:=ad λ(b:Bool) (w:World) (h:jT u s N w ⟨GA,gn,gc,MA,mn,mc,PA,pn,pc⟩ ⟨bM,b2,bo,TA,tn,tc,HA,hn,hc⟩)=>And.intro (instr_any b u s t N w _ _ h) (waiting_any b u s t N w _ _ h);clear h;dsimp only[UV.val,SV.val] at *;cases b
 all_goals
  simp only[cond_true,cond_false]
  first
   | go_enter func25,ntmps25
   | go_enter func49,ntmps49
  exact A1
 ):p:=h
end BN
open BN in
theorem enabled_any(b:Bool)(u:av)(s:ag)(t:Int)(N:Nat)(w:World)(p:UV)(q:SV)(h:jT u s N w p q) :
  Calls prog (bif b then 49 else 25) #[.agg (p.val u),.agg (q.val s),.int .i64 t] w λe ac=>e=.returned (.bool (vo u s t))/\Ext w ac:=by
 exact jf
theorem jT.len{N:Nat}{p:UV}{q:SV}(h:jT u s N w p q):s.threads.length=q.hn/\1<=q.hn/\q.hn<=32:=by
 have ae:=h.s.at_.h.1;have aD:=h.hS.zi;simp only[Lf] at ae;omega
theorem wR(h:∀j:Nat,j<s.threads.length->vo u s (j:Int)=false):jn u s=true:=by
 unfold jn;rw[List.all_eq_true];intro j bd;rw[h j (List.mem_range.1 bd)];rfl
theorem uF{j:Nat}(bd:j<s.threads.length)(h:vo u s (j:Int)=true):jn u s=false:=by
 unfold jn;rw[List.all_eq_false];exact⟨j,List.mem_range.2 bd,by simp[h]⟩
namespace BO
theorem kA(h:p:=by
 obtain⟨a0,ap,aj⟩:=bK.two;obtain⟨a3,am,aJ⟩:=aY.two;clear be aE bK aY;go_wp2_with(fail);clear a0 ap aj a3 am aJ;go_loopw [9] (λce wr=>∃k:Nat,ce=.int .i64 k/\k<=hn/\Ext W wr/\∀j:Nat,j<k->vo u s (j:Int)=false) (λce _=>hn - (intOf ce).toNat)
 case atStart=>exact⟨0,rfl,ab,LL,λj bd=>ab⟩
 case round=>
  obtain⟨k,rfl,ai,aE,P⟩:=hrel;have a8:=ah aE P;obtain⟨a0,ap,aj⟩:=(aH.2.1.aj aE).two;obtain⟨a3,am,aJ⟩:=(aH.2.2.1.aj aE).two;clear aE P;by_cases aw:k<hn
  .have T:(k:Int)<(hn:Int):=ab;go_wp2_with(fail);refine(enabled_any false u s k N wr ⟨GA,gn,gc,MA,mn,mc,PA,pn,pc⟩ ⟨bM,b2,bo,TA,tn,tc,HA,hn,hc⟩ (aH.2.2.2.on a8.1)).mono ?_;exact Gk
  .have T:¬(k:Int)<(hn:Int):=ab;exact GH
 ):p:=h
theorem ky(h:p:=by
 go_enter func21,ntmps21;exact kz
 ):p:=h
end BO
open BO in
theorem mquiet(u:av)(s:ag)(N:Nat)(w:World)(p:UV)(q:SV)(h:jT u s N w p q) :
  Calls prog 21 #[.agg (p.val u),.agg (q.val s)] w λe ac=>e=.returned (.bool (jn u s))/\Ext w ac:=by
 exact kx
namespace BP
theorem kA(h:p:=by
 obtain⟨a0,ap,aj⟩:=bK.two;obtain⟨a3,am,aJ⟩:=aY.two;clear be aE bK aY;go_wp2_with(fail);clear a0 ap aj a3 am aJ;go_loopw [5] (λce wr=>∃k:Nat,ce=.int .i64 k/\k<=hn/\Ext W wr/\∀j:Nat,j<k->vo u s (j:Int)=false) (λce _=>hn - (intOf ce).toNat)
 case atStart=>exact⟨0,rfl,ab,LL,λj bd=>ab⟩
 case round=>
  obtain⟨k,rfl,ai,aE,P⟩:=hrel;have a8:=ah aE P;obtain⟨a0,ap,aj⟩:=(aH.2.1.aj aE).two;obtain⟨a3,am,aJ⟩:=(aH.2.2.1.aj aE).two;clear aE P;by_cases aw:k<hn
  .have T:(k:Int)<(hn:Int):=ab;go_wp2_with(fail);refine(enabled_any true u s k N wr ⟨GA,gn,gc,MA,mn,mc,PA,pn,pc⟩ ⟨bM,b2,bo,TA,tn,tc,HA,hn,hc⟩ (aH.2.2.2.on a8.1)).mono ?_;exact Gk
  .have T:¬(k:Int)<(hn:Int):=ab;exact GH
 ):p:=h
theorem ky(h:p:=by
 go_enter func22,ntmps22;exact kz
 ):p:=h
end BP
open BP in
theorem rquiet(u:av)(s:ag)(N:Nat)(w:World)(p:UV)(q:SV)(h:jT u s N w p q) :
  Calls prog 22 #[.agg (p.val u),.agg (q.val s)] w λe ac=>e=.returned (.bool (jn u s))/\Ext w ac:=by
 exact kx
theorem sZ{k:Nat}(h:k<s.threads.length):((aI u s).take (k+1)).flatMap b5=((aI u s).take k).flatMap b5++[.int .i64 (gd (cR u s (k:Int)))]:=by
 have hx:(aI u s)[k]?=some (gd (cR u s (k:Int))):=by
  unfold aI;rw[List.getElem?_map,List.getElem?_range h];rfl
 rw[a1 hx,ey]
namespace BQ
theorem kA(h:p:=by
 obtain⟨a0,ap,aj⟩:=bK.two;obtain⟨a3,am,aJ⟩:=aY.two;clear be aE bK aY;go_wp2_with(fail);clear a0 ap aj a3 am aJ;go_loopw [5,13] (λv ce wr=>∃k:Nat,ce=.int .i64 k/\k<=hn/\wr.ownsRow W.heap.size 3 1 v k (((aI u s).take k).flatMap b5)/\Below W.heap.size W wr) (λ_ ce _=>hn - (intOf ce).toNat)
 case atStart=>exact⟨0,rfl,ab,World.ownsRow_nil _ _ _ _,Below.refl _ _⟩
 case round=>
  obtain⟨k,rfl,ai,ax,O⟩:=hrel;have aE:Ext W wr:=Fr.of O;have b4:=O.size;obtain⟨a0,ap,aj⟩:=(aH.2.1.aj aE).two;obtain⟨a3,am,aJ⟩:=(aH.2.2.1.aj aE).two;have a8:=aL aE ax O;clear aE ax O;by_cases aw:k<hn
  .have T:(k:Int)<(hn:Int):=ab;have bB:=ad (sZ (u:=u) (s:=s) (k:=k) (aC cr.2));go_wp2_with(fail);refine(waiting_any false u s k N wr ⟨GA,gn,gc,MA,mn,mc,PA,pn,pc⟩ ⟨bM,b2,bo,TA,tn,tc,HA,hn,hc⟩ (aH.2.2.2.on a8.1)).mono ?_;rintro e aP ⟨rfl,aF⟩;have bL:Below wr.heap.size wr aP:=Fr.ext aF;have ay:=bT a8.2.1 bL;have a9:Below W.heap.size W aP:=a8.2.2.trans (bL.mono b4);have g:=a9.size;generalize cR u s (k:Int)=r at *;clear a0 ap aj a3 am aJ aF bL;cases r
   all_goals
    go_wp2_with(at_builtin;refine bV _ de (by rfl) (.tmp 26) (.tmp 28) (by rfl) W.heap.size _ _ _ _ (by rfl) ay (by rfl) (by rfl) (g5 _ _) ab ab g ?_;intro v1 aV af aO cd);go_roundw
    case rel=>exact⟨k+1,by go_num,ab,by rw[bB.o];exact af,dk a9 ay aO (Lb _) g⟩
    case measure=>exact az
  .have T:¬(k:Int)<(hn:Int):=ab;obtain rfl:k=hn:=ab;have hl:=cr.2;skip
   have dG:(aI u s).take k=aI u s:=Lj (by rw[dC];omega);obtain⟨cy,c1,rfl,b9,_,_,_⟩:=bx a8.2.1;have b0:=aL dG b9 hl;clear dG b9 hl;go_wp2_with(fail);go_ret;refine⟨cy,c1,rfl,b0.2.1,?_,aH.1.trans a8.1⟩;have:=a8.2.1;rw[b0.1] at this;exact g6 this (iA _) (by rw[dC,b0.2.2])
 ):p:=h
theorem ky(h:p:=by
 go_enter func34,ntmps34;exact kz
 ):p:=h
end BQ
open BQ in
theorem sN(u:av)(s:ag)(N:Nat)(w:World)(p:UV)(q:SV)(h:jT u s N w p q) :
  Calls prog 34 #[.agg (p.val u),.agg (q.val s)] w λe ac=>∃A c,e=.returned (.slice A q.hn c)/\q.hn<=c/\cK (EF b5) 1 ac ac.heap.size A q.hn (aI u s)/\Ext w ac:=by
 exact kx
namespace BR
theorem kA(h:p:=by
 clear be aE bK aY;have cc:=j3 cr.1.hS;have aR:=ad cc;clear cc;go_wp2_with(fail);go_loopw [2,3] (λi sv wr=>∃(k:Nat) (x:Int),i=.int .i64 x/\sv=.int .i64 k/\k<=m∧-1<=x/\x<hn/\cZ (aI u s) k x=cZ (aI u s) m t/\Ext W wr) (λ_ sv _=>(intOf sv).toNat)
 case atStart=>exact⟨m,t,rfl,rfl,Lb _,cY,aB,rfl,LL⟩
 case round=>
  obtain⟨k,x,rfl,rfl,ai,U,dl,J,aE⟩:=hrel;have a8:=ah J aE;obtain⟨a0,ap,aj⟩:=(aH.2.1.aj aE).two;obtain⟨a3,am,aJ⟩:=(aH.2.2.1.aj aE).two;clear J aE;by_cases hx:0<=x
  case neg=>
   have q1:decide (x>=0)=false:=by simp;omega
   have b0:=ad (show x=cZ (aI u s) m t by rw[<-a8.1,oY ab]);by_cases bw:0<k
   all_goals
    clear hx;exact z0
  by_cases bw:0<k
  case neg=>
   obtain rfl:k=0:=ab;have b0:=ad (show x=cZ (aI u s) m t from a8.1);clear hx bw;exact z0
  obtain⟨k,rfl⟩:∃j,k=j+1:=⟨k - 1,ab⟩
  have bk:cZ (aI u s) k (gd (cR u s x))=cZ (aI u s) m t:=by
   rw[<-a8.1,cZ,if_neg ab,iZ]
  have aQ:=jI aR.o x;rw[iZ,dC] at aQ;have hl:=cr.2;skip
  rw[hl] at aQ;have q1:decide (x>=0)=true:=by simpa using hx
  have aZ:=ah bk aQ;clear bk aQ hl;go_wp2_with(fail);refine(waiting_any true u s x N wr ⟨GA,gn,gc,MA,mn,mc,PA,pn,pc⟩ ⟨bM,b2,bo,TA,tn,tc,HA,hn,hc⟩ (aH.2.2.2.on a8.2)).mono ?_;rintro e aP ⟨rfl,aF⟩;have bs:=ad (a8.2.trans aF);have a5:=ad aZ.o;generalize cR u s x=r at *;clear a0 ap aj a3 am aJ aF aZ
  cases r with
  | none=>
   have ba:cZ (aI u s) m t = -1:=by rw[<-a5.1];exact oY (by decide) _
   have bc:=ad ba;clear ba;go_wp2_with(fail);go_ret
   exact⟨by rw[bc.o];rfl,aH.1.trans bs.o⟩
  | some r=>
   obtain⟨el,o⟩:=r;have bl:=a5.2;simp only[gd] at bl;have g:=bl.1;have f:=bl.2;clear bl;go_wp2_with(fail);go_roundw
   case rel=>exact⟨k,o,rfl,rfl,ab,g,f,a5.1,bs.o⟩
   case measure=>simp[intOf]
 ):p:=h
theorem ky(h:p:=by
 go_enter func36,ntmps36;exact kz
 ):p:=h
end BR
open BR in
theorem qd(u:av)(s:ag)(t:Int)(m:Nat)(N:Nat)(w:World)(p:UV)(q:SV)(h:jT u s N w p q)(cY:-1<=t)(aB:t<q.hn)(hm:m<=1000) :
  Calls prog 36 #[.agg (p.val u),.agg (q.val s),.int .i64 t,.int .i64 m] w λe ac=>e=.returned (.int .i64 (cZ (aI u s) m t))/\Ext w ac:=by
 exact kx
def eO(w:World)(L:List Int)(e:Ending)(ac:World):Prop:=∃A c,e=.returned (.slice A L.length c)/\L.length<=c/\cK (EF b5) 1 ac ac.heap.size A L.length L/\Ext w ac
theorem eO.own{L:List Int}{v:Value}{B n:Nat}(hn:L.length=n)(h:ac.ownsRow B 3 1 v n (L.flatMap b5))(he:Ext w ac):eO w L (.returned v) ac:=by
 subst hn;obtain⟨cy,c1,rfl,b9,_,_,_⟩:=bx h;exact⟨cy,c1,rfl,b9,g6 h (iA _) rfl,he⟩
theorem eO.nil(he:Ext w ac):eO w [] (.returned (.slice none 0 0)) ac:=eO.own (B:=0) rfl (World.ownsRow_nil _ _ _ _) he
def GZ:Value->Nat
 | .slice _ n _=>n
 | _=>0
def jx(l:List Int)(k:Nat):List Int:=((List.range k).map Int.ofNat).filter λt=>decide (0<=cZ l (l.length+1) t)
def c4(l:List Int)(t:Int):List Int:=match dQ l t with
 | none=>[]
 | some m=>(List.range (m+1)).map λk=>cZ l k t
section
variable {l:List Int} {t:Int} {k:Nat}
theorem yz:(jx l k).length<=k:=by
 unfold jx;refine Ls (List.length_filter_le _ _) ?_;simp
theorem xQ(h:0<=cZ l (l.length+1) (k:Int)):jx l (k+1)=jx l k++[(k:Int)]:=by
 exact zY
theorem xP(h:¬0<=cZ l (l.length+1) (k:Int)):jx l (k+1)=jx l k:=by
 exact zY
theorem v5(h:∀i,i<l.length->cZ l (i+1) t≠t):dQ l t=none:=by
 unfold dQ;rw[List.find?_eq_none];intro i ak;simpa using h i (List.mem_range.1 ak)
theorem tT(h:∀i,i<m->cZ l (i+1) t≠t)(hm:m<l.length)(he:cZ l (m+1) t=t):dQ l t=some m:=by
 unfold dQ;rw[List.find?_range_eq_some];exact⟨by simpa using he,List.mem_range.2 hm,λj bd=>by simpa using h j bd⟩
theorem kD(h:∀i,i<l.length->cZ l (i+1) t≠t):c4 l t=[]:=by unfold c4;rw[v5 h]
theorem n8(h:∀i,i<m->cZ l (i+1) t≠t)(hm:m<l.length)(he:cZ l (m+1) t=t):c4 l t=(List.range (m+1)).map λk=>cZ l k t:=by
 unfold c4;rw[tT h hm he]
theorem l7:(dQ l t).isSome=true↔c4 l t≠[]:=by
 unfold c4;cases dQ l t<;>simp
theorem rJ(h:∀j:Nat,j<l.length->c4 l (j:Int)=[]):ma l=[]:=by
 unfold ma;have:((List.range l.length).map Int.ofNat).find? (λt=>(dQ l t).isSome)=none:=by
  rw[List.find?_eq_none];intro x hx;obtain⟨j,bd,rfl⟩:=Lz.1 hx;intro hc;exact l7.1 hc (h j (List.mem_range.1 bd))
 rw[this]
theorem pT(h:∀j:Nat,j<k->c4 l (j:Int)=[])(ai:k<l.length)(hc:c4 l (k:Int)≠[]):ma l=c4 l (k:Int):=by
 have J:((List.range l.length).map Int.ofNat).find? (λt=>(dQ l t).isSome)=some (k:Int):=by
  rw[List.find?_map];have:(List.range l.length).find? ((λt=>(dQ l t).isSome) ∘ Int.ofNat)=some k:=by
   rw[List.find?_range_eq_some];refine⟨l7.2 hc,List.mem_range.2 ai,λj bd=>?_⟩;have ae:=h j bd;simp only[Function.comp,Bool.not_eq_true']
   cases hs:(dQ l (Int.ofNat j)).isSome with
   | false=>rfl
   | true=>exact absurd ae (l7.1 hs)
  rw[this];rfl
 unfold ma;rw[J];unfold c4 at hc ⊢
 cases br:dQ l (k:Int) with
 | none=>rw[br] at hc;exact absurd rfl hc
 | some m=>simp only[br,Option.getD_some]
theorem ug:((List.range (k+1)).map λi=>cZ l i t).flatMap b5=((List.range k).map λi=>cZ l i t).flatMap b5++[.int .i64 (cZ l k t)]:=by
 rw[List.range_succ,Li,List.map_singleton,ey]
end
namespace BS
theorem kA(h:p:=by
 clear be aE bK aY;have hl:(aI u s).length=hn:=by rw[dC];exact cr.2
 have bN:=ah hl (show ((hn:Int)+1)=((hn+1:Nat):Int) by omega);clear hl;go_wp2_with(fail);go_loopw [5,6] (λv ce wr=>∃k:Nat,ce=.int .i64 k/\k<=hn/\wr.ownsRow W.heap.size 3 1 v (jx (aI u s) k).length ((jx (aI u s) k).flatMap b5)/\Below W.heap.size W wr) (λ_ ce _=>hn - (intOf ce).toNat)
 case atStart=>exact⟨0,rfl,ab,World.ownsRow_nil _ _ _ _,Below.refl _ _⟩
 case round=>
  obtain⟨k,rfl,ai,ax,O⟩:=hrel;have aE:Ext W wr:=Fr.of O;have b4:=O.size;have cu:=yz (l:=aI u s) (k:=k);obtain⟨a0,ap,aj⟩:=(aH.2.1.aj aE).two;obtain⟨a3,am,aJ⟩:=(aH.2.2.1.aj aE).two;have L:=aL (xQ (l:=aI u s) (k:=k)) (xP (l:=aI u s) (k:=k)) (λh:k=hn=>show jx (aI u s) k=gx (aI u s) by rw[h,<-bN.1];rfl);generalize jx (aI u s) k=D at *;have a8:=aL aE ax O;clear aE ax O;by_cases aw:k<hn
  .have T:(k:Int)<(hn:Int):=ab;go_wp2_with(fail);rw[bN.2];refine(qd u s k (hn+1) N wr ⟨GA,gn,gc,MA,mn,mc,PA,pn,pc⟩ ⟨bM,b2,bo,TA,tn,tc,HA,hn,hc⟩ (aH.2.2.2.on a8.1) ab (by simp only;omega) ab).mono ?_;rintro e aP ⟨rfl,aF⟩;have bL:Below wr.heap.size wr aP:=Fr.ext aF;have ay:=bT a8.2.1 bL;have a9:Below W.heap.size W aP:=a8.2.2.trans (bL.mono b4);have g:=a9.size;have hT:=L.o;rw[bN.1] at hT;generalize cZ (aI u s) (hn+1) (k:Int)=z at *;have f:=ad hT;clear a0 ap aj a3 am aJ aF bL hT;by_cases ba:0<=z
   .have q1:decide (z>=0)=true:=by simpa using ba
    have bB:=ad (f.1 ba);clear ba f;go_wp2_with(at_builtin;refine bV _ de (by rfl) (.tmp 23) (.tmp 25) (by rfl) W.heap.size _ _ _ _ (by rfl) ay (by rfl) (by rfl) (g5 _ _) ab ab g ?_;intro v1 aV af aO cd);go_roundw
    case rel=>exact⟨k+1,by go_num,ab,by rw[bB.o,Ld,ey];exact af,dk a9 ay aO (Lb _) g⟩
    case measure=>exact az
   .have q1:decide (z>=0)=false:=by simpa using ba
    have bB:=ad (f.2.1 ab);have bq:=ah ay a9;clear ba f ay a9;go_wp2_with(fail);go_roundw
    case rel=>exact⟨k+1,by go_num,ab,by rw[bB.o];exact bq.1,bq.2⟩
    case measure=>exact az
  .have T:¬(k:Int)<(hn:Int):=ab;have b0:=ad (L.2.2 ab);clear aw L;go_wp2_with(fail);go_ret;rw[<-b0.o];exact eO.own rfl a8.2.1 (aH.1.trans a8.1)
 ):p:=h
theorem ky(h:p:=by
 go_enter func13,ntmps13;exact kz
 ):p:=h
end BS
open BS in
theorem rdead(u:av)(s:ag)(N:Nat)(w:World)(p:UV)(q:SV)(h:jT u s N w p q) :
  Calls prog 13 #[.agg (p.val u),.agg (q.val s)] w (eO w (gx (aI u s))):=by
 exact kx
theorem vU(A:LP)(n c:Nat)(l:List Int)(t:Int)(w:World)(h:cK (EF b5) 1 w w.heap.size A n l)(hl:cD l)(cY:0<=t)(aB:t<n)(hn:n<=32) :
  Calls prog 37 #[.slice A n c,.int .i64 t] w (eO w (c4 l t)):=by
 have hlen:l.length=n:=by have:=h.1;omega
 have aQ:=λk=>lr hl (t:=t) ab ab k;have cr:=bG hl aQ hlen h;clear hl aQ hlen h;go_enter func37,ntmps37;go_wp2_with(fail);go_loopw [5,6] (λv S wr=>∃k:Nat,S=.int .i64 (cZ l k t)/\k<=n+1/\(∀i,i+1<k->cZ l (i+1) t≠t)/\wr.ownsRow w.heap.size 3 1 v k (((List.range k).map λi=>cZ l i t).flatMap b5)/\Below w.heap.size w wr) (λv _ _=>n+2 - GZ v)
 case atStart=>exact⟨0,rfl,ab,λi ak=>ab,World.ownsRow_nil _ _ _ _,Below.refl _ _⟩
 case round=>
  obtain⟨k,rfl,ai,P,ax,O⟩:=hrel;have b4:=O.size;obtain⟨B,fk,rfl,cC,_,_,_⟩:=bx ax;have H:=cr.2.1 k;rw[cr.2.2.1] at H;have U:k=0->cZ l k t=t:=λh=>by subst h;rfl
  have s:0<=cZ l k t->cZ l (k+1) t=nI l (cZ l k t):=λh=>by rw[qb,sV h]
  have I:cZ l k t<0->c4 l t=[]:=λhx=>kD λi ak=>by
   rcases Nat.lt_or_ge (i+1) k with ae|ae
   .exact P i ae
   .intro he;have:=dB (l:=l) (t:=t) (j:=k) (k:=i+1) ab ae;omega
  have r:¬k<=n->c4 l t=[]:=λhx=>kD λi ak=>P i (aC cr.2.2.1);have u:cZ l k t=t->0<k->k<=n->c4 l t=(List.range k).map λi=>cZ l i t:=λhe h0 ae=>by
   obtain⟨m,rfl⟩:∃m,k=m+1:=⟨k - 1,ab⟩
   exact n8 (λi ak=>P i ab) (aC cr.2.2.1) he
  have ck:=ug (l:=l) (t:=t) (k:=k);have T:cZ l k t≠t->∀i,i+1<k+1->cZ l (i+1) t≠t:=λhe i ak=>by
   rcases Nat.lt_or_ge (i+1) k with ae|ae
   .exact P i ae
   .rw[show i+1=k by omega];exact he
  have co:=gY U s I r u ck T;clear P U s I r u ck T;generalize cg:((List.range k).map λi=>cZ l i t)=R at *;generalize hX:cZ l k t=x at *;generalize bP:cZ l (k+1) t=y at *;generalize bo:c4 l t=L at *;have aZ:=aL ax O cg;have aR:=ah hX bP;clear ax O cg hX bP bo;by_cases hx:0<=x
  case neg=>
   have q1:decide (x>=0)=false:=by simpa using hx
   have b0:=ad (co.2.2.1 ab);exact zX
  have q1:decide (x>=0)=true:=by simpa using hx
  have bd:x<(n:Int):=H.2;by_cases aW:k<=n
  case neg=>
   have b0:=ad (co.2.2.2.1 aW);exact zX
  by_cases hP:x=t/\0<k
  .have cw:(x == t)=true:=by simpa using hP.1
   have cO:0<k:=hP.2;have b0:=ad (co.2.2.2.2.1 hP.1 hP.2 aW);clear hP co H;go_wp2_with(fail);go_ret;rw[b0.o];exact eO.own (by rw[<-aZ.2.2];simp) aZ.1 (Fr.of aZ.2.1)
  .have T:∀i,i+1<k+1->cZ l (i+1) t≠t:=by
    rcases Nat.eq_zero_or_pos k with h0|h0
    .intro i ak;omega
    .exact co.2.2.2.2.2.2 λh=>hP ⟨h,h0⟩
   have bk:=co.2.1 hx;have bY:=aL T bk co.2.2.2.2.2.1;obtain⟨j,rfl⟩:=Lg hx;have Q:j<n:=ab;obtain⟨b,o,z,rfl,al,ba,c0⟩:=cr.2.2.2.int Q;have K:z=y:=by
    rw[bk];unfold nI;rw[if_neg ab,Lw,List.getD_eq_getElem?_getD,ba];rfl
   subst K;have ax:=aZ.1;have a9:=aZ.2.1;have b9:(0:Int)<=(j:Int):=ab;have N:b<wr.heap.size:=ab;have bQ:=ah al c0;clear T bk ba hx H co c0 al;by_cases J:(j:Int)=t
   case' pos=>
    have bw:k=0:=by
     refine Classical.byContradiction λh=>hP ⟨J,ab⟩
    subst bw;have cw:((j:Int) == t)=true:=by simpa using J
   case' neg=>
    have cw:((j:Int) == t)=false:=by simpa using J
   all_goals
    clear hP J;go_wp2_with(at_builtin;refine bV _ de (by rfl) (.tmp 36) (.tmp 38) (by rfl) w.heap.size _ _ _ _ (by rfl) ax (by rfl) (by rfl) (g5 _ _) ab ab b4 ?_;intro v1 aV af aO cd;have aA:=dk a9 ax aO (Lb _) b4;have c2:=((Fr.of (M:=λ_=>False) aA).cell (j:=o+j) bQ.1 (λh=>h)).trans bQ.2;have bq:=ah af aA;obtain⟨V,ac,rfl,dF,_,_,_⟩:=bx af;clear ax a9 af aA aO cd);go_roundw
    case rel=>exact⟨_,by rw[aR.2],ab,bY.1,by rw[bY.2.2];exact bq.1,bq.2⟩
    case measure=>simp[GZ]<;>omega
namespace BU
theorem Ak(h:p:=by
 go_wp2_with(fail);go_loopw [13] (λce wr=>∃k:Nat,ce=.int .i64 k/\k<=hn/\Ext aP wr/\∀j:Nat,j<k->c4 l (j:Int)=[]) (λce _=>hn - (intOf ce).toNat)
 case atStart=>exact⟨0,rfl,ab,LL,λj bd=>ab⟩
 case round=>
  obtain⟨k,rfl,ai,aE,P⟩:=hrel;have a8:=ah aE P;clear aE P;by_cases aw:k<hn
  .have T:(k:Int)<(hn:Int):=ab;go_wp2_with(fail);refine(vU A hn c l k wr (H1.1.cS (Fr.ext a8.1) a8.1.size) bN.2 ab T E).mono ?_;rintro e aV ⟨B,fk,rfl,_,bZ,a2⟩;have bB:=ah bZ (a8.1.trans a2);clear bZ a2;by_cases ba:0<(c4 l (k:Int)).length
   .have hc:=pT (l:=l) (k:=k) a8.2 (by rw[bN.1];exact aw) (λh=>by rw[h] at ba;simp at ba);have bQ:=ad hc;clear hc;go_wp2_with(fail);go_ret;rw[bQ.o];exact⟨B,fk,rfl,by assumption,bB.1,H1.2.trans bB.2⟩
   .have h0:c4 l (k:Int)=[]:=List.eq_nil_of_length_eq_zero ab;have bc:=ad h0;clear h0;go_wp2_with(fail);go_roundw
    case rel=>exact⟨k+1,by go_num,ab,bB.2,λj bd=>by
     rcases Nat.lt_or_ge j k with ae|ae
     .exact a8.2 j ae
     .rw[show j=k by omega];exact bc.o⟩
    case measure=>exact az
  .have T:¬(k:Int)<(hn:Int):=ab;have bQ:=ad (rJ (l:=l) λj bd=>a8.2 j (aC bN.1));go_wp2_with(fail);go_ret;rw[bQ.o];exact eO.nil (H1.2.trans a8.1)
 ):p:=h
theorem kA(h:p:=by
 exact Aj
 ):p:=h
theorem ky(h:p:=by
 go_enter func14,ntmps14;exact kz
 ):p:=h
end BU
open BU in
theorem mcycle(u:av)(s:ag)(N:Nat)(w:World)(p:UV)(q:SV)(h:jT u s N w p q) :
  Calls prog 14 #[.agg (p.val u),.agg (q.val s)] w (eO w (ma (aI u s))):=by
 exact kx
namespace BV
theorem kA(h:p:=by
 have hl:(aI u s).length=hn:=by rw[dC];exact cr.2
 have bN:=ad hl;have gU:=ad λ(t m:Nat) (wr:World) (aE:Ext W wr) (ht:t<hn) (hm:m<=1000)=>qd u s t m N wr ⟨GA,gn,gc,MA,mn,mc,PA,pn,pc⟩ ⟨bM,b2,bo,TA,tn,tc,HA,hn,hc⟩ (aH.2.2.2.on aE) ab (by simp only;omega) hm;clear be aE bK aY hl;dsimp only[UV.val,SV.val] at gU;generalize aI u s=l at *;go_wp2_with(fail);go_loopw [5] (λce wr=>∃k:Nat,ce=.int .i64 k/\k<=hn/\Ext W wr/\∀j:Nat,j<k->c4 l (j:Int)=[]) (λce _=>hn - (intOf ce).toNat)
 case atStart=>exact⟨0,rfl,ab,LL,λj bd=>ab⟩
 case round=>
  obtain⟨k,rfl,ai,aE,P⟩:=hrel;obtain⟨a3,am,aJ⟩:=(aH.2.2.1.aj aE).two;have a8:=ah aE P;clear aE P;by_cases aw:k<hn
  case neg=>
   have T:¬(k:Int)<(hn:Int):=ab;have bQ:=ad (rJ (l:=l) λj bd=>a8.2 j (aC bN.o));go_wp2_with(fail);go_ret;rw[bQ.o];exact eO.nil (aH.1.trans a8.1)
  have T:(k:Int)<(hn:Int):=ab;go_wp2_with(fail);clear a3 am aJ;go_loopw [6] (λgO bh=>∃m:Nat,gO=.int .i64 ((m+1:Nat):Int)/\m<=hn/\Ext W bh/\∀i,i<m->cZ l (i+1) (k:Int)≠k) (λgO _=>hn+2 - (intOf gO).toNat)
  case atStart=>exact⟨0,rfl,ab,a8.1,λi ak=>ab⟩
  case round=>
   obtain⟨m,rfl,hm,f,o⟩:=hrel;obtain⟨a0,ap,aj⟩:=(aH.2.1.aj f).two;obtain⟨a3,am,aJ⟩:=(aH.2.2.1.aj f).two;have bU:=ah f o;clear f o;by_cases eM:m+1<=hn
   case neg=>
    have z:¬((m+1:Nat):Int)<=(hn:Int):=ab;have bc:=ad (kD (l:=l) (t:=(k:Int)) λi ak=>bU.2 i (aC bN.o));go_wp2_with(fail);go_roundw
    case rel=>exact⟨k+1,by go_num,ab,bU.1,λj bd=>by
     rcases Nat.lt_or_ge j k with ae|ae
     .exact a8.2 j ae
     .rw[show j=k by omega];exact bc.o⟩
    case measure=>exact az
   have z:((m+1:Nat):Int)<=(hn:Int):=ab;go_wp2_with(fail);refine(gU.o k (m+1) _ bU.1 aw ab).mono ?_;rintro e aV ⟨rfl,a2⟩;have a7:=ad (bU.1.trans a2);clear a2 a0 ap aj a3 am aJ;generalize hX:cZ l (m+1) (k:Int)=x at *;have aR:=ad hX;clear hX;by_cases s0:x=(k:Int)
   case neg=>
    have q1:(x != (k:Int))=true:=by simpa using s0
    have bY:=ad s0;clear s0;go_wp2_with(fail);go_roundw
    case rel=>exact⟨m+1,by go_num,ab,a7.o,λi ak=>by
     rcases Nat.lt_or_ge i m with ae|ae
     .exact bU.2 i ae
     .rw[show i=m by omega,aR.o];exact bY.o⟩
    case measure=>exact az
   have q1:(x != (k:Int))=false:=by simpa using s0
   have hc:=n8 (l:=l) (t:=(k:Int)) bU.2 (aC bN.o) (aR.trans s0);have bR:=pT (l:=l) (k:=k) a8.2 (by rw[bN.o];exact aw) (λh=>by rw[hc] at h;simp at h);have bQ:=ad (bR.trans hc);clear hc bR s0;go_wp2_with(fail);clear q1;go_loopw [7,8] (λv bt bn=>∃j:Nat,bt=.int .i64 j/\j<=m+1/\bn.ownsRow aV.heap.size 3 1 v j (((List.range j).map λi=>cZ l i (k:Int)).flatMap b5)/\Below aV.heap.size aV bn) (λ_ bt _=>m+1 - (intOf bt).toNat)
   case atStart=>exact⟨0,rfl,ab,World.ownsRow_nil _ _ _ _,Below.refl _ _⟩
   case round=>
    obtain⟨j,rfl,bd,ax,O⟩:=hrel;have b4:=O.size;have n:=a7.trans (Fr.of O);obtain⟨a0,ap,aj⟩:=(aH.2.1.aj n).two;obtain⟨a3,am,aJ⟩:=(aH.2.2.1.aj n).two;have bc:=aL n ax O;clear n ax O;by_cases F:j<m+1
    .have r:(j:Int)<((m+1:Nat):Int):=ab;have bB:=ad (ug (l:=l) (t:=(k:Int)) (k:=j));go_wp2_with(fail);refine(gU.o k j _ bc.1 aw ab).mono ?_;rintro e b3 ⟨rfl,bu⟩;have bL:=Fr.ext bu;have ay:=bT bc.2.1 bL;have a9:Below aV.heap.size aV b3:=bc.2.2.trans (bL.mono b4);have g:=a9.size;generalize cZ l j (k:Int)=y at *;clear a0 ap aj a3 am aJ bu bL;go_wp2_with(at_builtin;refine bV _ de (by rfl) (.tmp 35) (.tmp 41) (by rfl) aV.heap.size _ _ _ _ (by rfl) ay (by rfl) (by rfl) (g5 _ _) ab ab g ?_;intro v1 cz af aO cd);go_roundw
     case rel=>exact⟨j+1,by go_num,ab,by rw[bB.o];exact af,dk a9 ay aO (Lb _) g⟩
     case measure=>exact az
    .have r:¬(j:Int)<((m+1:Nat):Int):=ab;obtain rfl:j=m+1:=ab;go_wp2_with(fail);go_ret;rw[bQ.o];exact eO.own (by simp) bc.2.1 (aH.1.trans bc.1)
 ):p:=h
theorem ky(h:p:=by
 go_enter func15,ntmps15;exact kz
 ):p:=h
end BV
open BV in
theorem rcycle(u:av)(s:ag)(N:Nat)(w:World)(p:UV)(q:SV)(h:jT u s N w p q) :
  Calls prog 15 #[.agg (p.val u),.agg (q.val s)] w (eO w (ma (aI u s))):=by
 exact kx
end Go.Proofs.YtflecliffjbleaaGreat
