/- Part 28 of the proof. No condition of its own. -/
import Derived.Test.YtpkfopfkdgkfkaaGreatQ27
namespace Go.Proofs.YtpkfopfkdgkfkaaGreat
open Go.RowKit Go.Proofs.Tryz
set_option maxRecDepth 1000000
set_option maxHeartbeats 25600000
set_option linter.unusedVariables false
variable{threads:Int}{X:List bM}{T:List cx}{p:Prop}{w:World}
section
attribute [local go_sem ↓] gE gF
def dj(X:List bM)(threads:Int)(i:Nat)(h:cx):Bool:=
 !(decide (h.owner<0) || decide (threads<h.owner) || ((h.owner == 0) != (h.depth == 0)) || decide (h.depth<0) || (decide (1<h.depth) && !w3 X (a9 X i)))
def fk(X:List bM)(T:List cx)(threads:Int):Bool:=decide (T.length=(own X).length) && (List.range T.length).all λi=>dj X threads i (j4 T i)
theorem qP(h:T.length≠(own X).length):fk X T threads=false:=by
 unfold fk;rw[decide_eq_false h];rfl
theorem xw{k:Nat}{hd:cx}(hx:T[k]?=some hd)(h:dj X threads k hd=false):fk X T threads=false:=by
 unfold fk;have aj:=(List.getElem?_eq_some_iff.1 hx).1;have bG:j4 T (k:Int)=hd:=by unfold j4;rw[Mc,hx];rfl
 rw[Bool.and_eq_false_iff];right;rw[List.all_eq_false];exact⟨k,List.mem_range.2 aj,by rw[bG,h];simp⟩
theorem ot(hl:T.length=(own X).length)(h:∀k hd,T[k]?=some hd->dj X threads k hd=true):fk X T threads=true:=by
 unfold fk;rw[decide_eq_true hl,Bool.true_and,List.all_eq_true];intro k aj;have aj:=List.mem_range.1 aj;refine h k _ ?_;unfold j4;rw[Mc,List.getElem?_eq_getElem aj];rfl
namespace CP
theorem A6(h:p:=by
 go_wp2_with(fail);have s:=a1.alloc cv (.cells #[.int .i64 hd.owner,.int .i64 hd.depth] 79);refine(oi A n c X k _ (h.cZ s s.size) hX ad).mono ?_;rintro r aT ⟨rfl,bj⟩;have aE:=s.trans (bj.mono s.size);obtain⟨K,Q,y,rfl,l,g,d0,d1,d2⟩:=(h.eB aE).I6 a6;obtain rfl:t=y:=by have:=aa.o;rw[g] at this;injection this with this;exact this.symm
 clear g;rw[b5.o]
 cases a5:t.re with
 | false=>
  have a3:=ae (d.o (by unfold dj;rw[m.o,a5];simp[co]));rw[a5] at d1;clear a5;go_wp2;go_ret
  exact⟨ret_bool (by rw[a3.o]),aE⟩
 | true=>
  have aY:=ae (show dj X th k hd=true by unfold dj;rw[m.o,a5,bT,g2];simp[e1,e2,be]);rw[a5] at d1;clear a5;go_wp2;go_roundw
  case rel=>
   refine⟨k+1,ad,by go_num,λj u bd g=>?_,aE⟩;exact DT
  case measure=>exact aH
 ):p:=h
theorem A1(h:p:=by
 by_cases co:1<hd.depth
 case neg=>
  have aY:=ae (show dj X th k hd=true by unfold dj;rw[bT,g2];simp[e1,e2,be,co]);exact BW
 exact A5
 ):p:=h
theorem Bg(h:p:=by
 by_cases f1:hd.owner=0
 .have bT:(hd.owner == 0)=true:=by simpa using f1
  by_cases f2:hd.depth=0
  .have g2:(hd.depth == 0)=true:=by simpa using f2
   have aY:=ae (show dj X th k hd=true by unfold dj;rw[bT,g2];simp;omega);have f3:¬hd.depth<0:=ad;have f4:¬1<hd.depth:=ad;clear f1 f2;exact BW
  .have g2:(hd.depth == 0)=false:=by simpa using f2
   exact vR
 exact A0
 ):p:=h
end CP
open CP in
theorem zk(A A2:Mt)(n c n2 c2:Nat)(X:List bM)(T:List cx)(th:Int)(w:World)(h:cw (EF gu) 3 w w A n X)(hX:mr X)
  (ht:cw (EF bO) 2 w w A2 n2 T) :
  Calls prog 16 #[.slice A n c,.slice A2 n2 c2,th] w λr ab=>r=.returned (.bool (fk X T th))/\Below w w ab:=by
 have hl:=h.1;have bc:=ht.1;have F:=cm hX;have e:=dU X;go_enter func16,ntmps16;go_wp2_with(fail);refine(ib A n c X w h hX).mono ?_;rintro r aS ⟨rfl,O⟩;rw[<-e];generalize hN:(own X).length=N at *;by_cases bi:n2=N
 case neg=>
  have a3:=ae (show fk X T th=false from qP ad);have v:(n2 != N)=true:=by simpa using bi
  have f:((n2:Int) != (N:Int))=true:=by simp;omega
  clear hl bc hN e bi;exact rk
 subst bi;have b6:=ae (show T.length=(own X).length by omega);obtain⟨E,L,D⟩:=ef e bc hl;clear hl bc hN e;have bt:((n2:Int) != (n2:Int))=false:=by simp
 go_wp2;go_loopw [16] (λi wr=>∃k:Nat,k<=n2/\i=.int .i64 k/\(∀j hd,j<k->T[j]?=some hd->dj X th j hd=true)/\Below w w wr) (λi _=>n2 - (intOf i).toNat)
 case atStart=>exact⟨0,Md _,rfl,λj hd bd=>absurd bd ad,O⟩
 case round=>
  obtain⟨k,aj,rfl,bm,a1⟩:=hrel;have aD:=ae bm;clear bm;by_cases an:k<n2
  .obtain⟨b,o,hd,rfl,aB,hx,c0,c1⟩:=(ht.eB a1).hold an;have cv:=a1.size;exact Bf
  .obtain rfl:k=n2:=ad;exact zD
namespace CQ
theorem A6(h:p:=by
 obtain⟨dH,fm,x,rfl,ey,oE,I⟩:=(a5.eB s).int an;obtain rfl:x=(i:Int):=by
  have ac:=b5.o;unfold a9 at ac;rw[if_neg ad,Mc,oE] at ac;exact ac
 obtain⟨K,Q,y,rfl,l,g,d0,d1,d2⟩:=(h.eB a1).I6 a6;obtain rfl:t=y:=by have:=aa.o;rw[g] at this;injection this with this;exact this.symm
 clear g oE;have bs:dH<wr:=ad;have H:K<wr:=ad
 cases z:t.re with
 | false=>
  have a3:=ae (d.o (by unfold dj;rw[m.o,z];simp[co]));rw[z] at d1;clear z
  exact tJ
 | true=>
  have aY:=ae (show dj X th k hd=true by unfold dj;rw[m.o,z,bT,g2];simp[e1,e2,be]);rw[z] at d1;clear z;exact vQ
 ):p:=h
theorem A1(h:p:=by
 by_cases co:1<hd.depth
 case neg=>
  have aY:=ae (show dj X th k hd=true by unfold dj;rw[bT,g2];simp[e1,e2,be,co]);exact vQ
 exact A5
 ):p:=h
theorem Bg(h:p:=by
 by_cases f1:hd.owner=0
 .have bT:(hd.owner == 0)=true:=by simpa using f1
  by_cases f2:hd.depth=0
  .have g2:(hd.depth == 0)=true:=by simpa using f2
   have aY:=ae (show dj X th k hd=true by unfold dj;rw[bT,g2];simp;omega);have f3:¬hd.depth<0:=ad;have f4:¬1<hd.depth:=ad;clear f1 f2;exact vQ
  .have g2:(hd.depth == 0)=false:=by simpa using f2
   exact vR
 exact A0
 ):p:=h
end CQ
open CQ in
theorem ti(A A2:Mt)(n c n2 c2:Nat)(X:List bM)(T:List cx)(th:Int)(w:World)(h:cw (EF gu) 3 w w A n X)(hX:mr X)
  (ht:cw (EF bO) 2 w w A2 n2 T) :
  Calls prog 23 #[.slice A n c,.slice A2 n2 c2,th] w λr ab=>r=.returned (.bool (fk X T th))/\Below w w ab:=by
 have hl:=h.1;have bc:=ht.1;have F:=cm hX;have e:=dU X;go_enter func23,ntmps23;go_wp2_with(fail);refine(ka A n c X w h hX).mono ?_;rintro r aS ⟨cR,c1,rfl,cz,a5,O⟩;generalize hN:(own X).length=N at *;by_cases bi:n2=N
 case neg=>
  have a3:=ae (show fk X T th=false from qP ad);have v:(N != n2)=true:=by simp;omega
  have f:((N:Int) != (n2:Int))=true:=by simp;omega
  clear hl bc hN e bi;exact rk
 subst bi;have b6:=ae (show T.length=(own X).length by omega);obtain⟨E,L,D⟩:=ef e bc hl;clear hl bc hN e;have bt:((n2:Int) != (n2:Int))=false:=by simp
 go_wp2;go_loopw [8] (λi wr=>∃k:Nat,k<=n2/\i=.int .i64 k/\(∀j hd,j<k->T[j]?=some hd->dj X th j hd=true)/\Below w w wr/\Below aS aS wr) (λi _=>n2 - (intOf i).toNat)
 case atStart=>exact⟨0,Md _,rfl,λj hd bd=>absurd bd ad,O,Below.refl _ _⟩
 case round=>
  obtain⟨k,aj,rfl,bm,a1,s⟩:=hrel;have aD:=ae bm;clear bm;by_cases an:k<n2
  .obtain⟨b,o,hd,rfl,aB,hx,c0,c1⟩:=(ht.eB a1).hold an;have cv:=a1.size;have G:=s.size;exact Bf
  .obtain rfl:k=n2:=ad;exact zD
end
theorem Ew(w:World)(b i:Nat)(v:Value):Fr (λk=>k=b) w.drew (w.setCell ⟨b,i,none⟩ v).drew:=
 have h:=(Fr.refl (λk=>k=b) w).setCell (p:=⟨b,i,none⟩) (.inl rfl) v
 ⟨h.os,h.tape,h.output,h.size,h.block⟩
theorem ub{M:Nat->Prop}{ab:World}(h:Fr M w ab):Fr M w.drew ab.drew:=⟨h.os,h.tape,h.output,h.size,h.block⟩
theorem qq:∀(ps:List (ByteArray×Bool)) (q:ByteArray×Bool) (i k:Int),dY (ps++[q]) i k=dY ps i k++[if q.2 then ⟨q.1,5,k+bV ps⟩ else ⟨q.1,4,i+cj ps⟩]
 | [],(s,true),i,k=>by simp[dY,bV]
 | [],(s,false),i,k=>by simp[dY,cj]
 | (x,true)::ps,q,i,k=>by
  have:=(gW x true ps).2;have ap:=(gW x true ps).1;rw[L4,dY,dY,qq ps q i (k+1),this,ap];simp
  split<;>simp<;>omega
 | (x,false)::ps,q,i,k=>by
  have:=(gW x false ps).2;have ap:=(gW x false ps).1;rw[L4,dY,dY,qq ps q (i+1) k,this,ap];simp;split<;>simp<;>omega
theorem lr(ps:List (ByteArray×Bool))(q:ByteArray×Bool):cj (ps++[q])=cj ps+(if q.2 then 0 else 1)/\bV (ps++[q])=bV ps+(if q.2 then 1 else 0):=by
 obtain⟨s,b⟩:=q;cases b<;>simp[cj,bV]
theorem yM{P:Nat->Prop}{p:cM}{cs:List Value}:(gv p).rep w P cs↔∃A n c,cs=[.string p.name,.int .i64 p.ints,.int .i64 p.an,.int .i64 p.locals,.slice A n c]/\n<=c/\Sl w P A n (p.code.map ew):=by
 unfold gv;rw[bN,cu];constructor
 .rintro⟨y,rfl,h⟩;exact HF
 .rintro⟨A,n,c,rfl,hc,hs⟩;exact⟨_,rfl,bo.2 ⟨_,rfl,bo.2 ⟨_,rfl,bo.2 ⟨_,rfl,aO.2 ⟨A,n,c,[],rfl,hc,hs,aR.2 rfl⟩⟩⟩⟩⟩
def Je(w:World)(x:cM)(e:Ending)(ab:World):Prop:=∃(A:Mt) (n c:Nat) (bV:Mt) (bW bD:Nat),
 e=.returned (.tuple #[.agg #[.string x.name,.int .i64 x.ints,.int .i64 x.an,.int .i64 x.locals,.slice A n c],.slice bV bW bD,.int .i64 0,.int .i64 0])/\(gv x).rep ab (fresh w ab) [.string x.name,.int .i64 x.ints,.int .i64 x.an,.int .i64 x.locals,.slice A n c]/\Ext w ab
namespace Dj
theorem dC(h:p:=by
 clear bq am aG;generalize hX:World.setCell _ _ _=X;have b4:=cp hX;have a8:=bX.2.2.2.2.2.1.on b4 ad;have m:au X g 163 #[.slice GA gn gc,.slice MA mn mc,.slice FA fn fc,.slice A2 (ln+k+1) c2,(0:Int),(0:Int),(0:Int),(0:Int),(),()]:=hX▸bX.2.2.2.2.1.aN 3 _;have aN:=ag b4 m;clear c0 cl b1 hX b4 m;obtain⟨c0,cl,b1⟩:=a8.two;have cY:=ae a8;clear a8;have bt:=mO (f.params.take k);have aM:=iM (f.params.take k);have dB:(f.params.take k).length<=2:=by rw[List.length_take];omega
 have cC:wrap64 (bV (f.params.take k)+1)=bV (f.params.take k)+1:=IntWalk.wrap64_in _ ad;go_upto_region 5 with(fail);generalize bY:World.setCell _ _ _=b5
 try rw[cC] at bY
 have I:=cp bY;obtain⟨al,be,cf,cR,_,_,aZ⟩:=bX.o;obtain⟨b4,m⟩:=aN.o;have ak:=(T.o:W.heap.size<=g)
 have r1:Gr (λ_=>False) W.heap.size 105 3 b5 A2 (ln+(k+1)) c2 ((bp p++dY (f.params.take (k+1)) 0 0).map b0):=by
  exact Hr
 have gT:Ext w b5:=Fr.low (M:=λb=>w.heap.size<=b) ((be.mono λ_ h=>h.elim).trans ((b4.mono λb O=>ad).trans (I.mono λb O=>ad))) λ_ h=>h;have gW:=(cf.on b4 ad).on I ad;have f0:=(cR.on b4 ad).on I ad;have rg:=m.on I ad;have ro:au b5 o 71 #[.string f.name,.int .i64 (cj (f.params.take (k+1))),.int .i64 (bV (f.params.take (k+1))),(0:Int),()]:=by
  rw[aY bN.o,(lr _ _).1,(lr _ _).2,bs,<-bY];simpa using cY.aN 2 _
 exact zE
 ):p:=h
theorem fy(h:p:=by
 refine tf ?_;refine ch ?_;generalize co:World.setCell _ _ _=Y;obtain⟨_,s,_⟩:=pX b8 bo ak co;have b2:=ae (br.trans s);have aX:=N.aj s;have ec:=ae aX;have dy:=ae (bE.aj s);have cF:=bj.aj s;have c5:=bM.aj s;have cc:=ae (bH.aj s);replace h0:=(s.cell bg (λh=>h)).trans h0
 replace bP:=(s.cell bg (λh=>h)).trans bP
 have c4:=s.size;replace bg:pb<Y:=LL bg c4
 clear co c0 cl b1 b8 bo ak s a0 ai af bq am aG bj bM;obtain⟨bj,bM⟩:=aJ cF c5;obtain⟨a0,ai,af⟩:=aX.two;obtain⟨bq,am,aG⟩:=cF.two;obtain⟨c0,cl,b1⟩:=c5.two;clear aX cF c5;have cM:¬Y<=g:=ad;have es:¬Y<=o:=ad;have en:¬Y<=w.heap.size+1:=ad;have ev:¬Y<=pb:=ad
 cases bs:q.2 with
 | true=>
  rw[bs] at bP;go_wp2;refine eJ (λb=>Y.heap.size<=b) [(0,3),(1,3),(2,3),(3,3),(4,0),(5,3),(6,0),(7,3),(8,3),(9,3),(10,0),(11,3),(12,0),(13,3),(14,1),(15,2),(16,3),(17,3),(18,2)] ?_
  iterate 4 refine pf ?_
  refine oH ?_;refine pf ?_;refine oH ?_
  iterate 3 refine pf ?_
  refine oH ?_;refine pf ?_;refine oH ?_;refine pf ?_;refine rb ?_;generalize hV:World.drew (World.alloc _ _)=dD;have e1:=gQ hV;have cX:au dD Y 105 #[.string q.1,(5:Int),.int .i64 (bV (f.params.take k))]:=hV▸(Mp).drew;clear hV;refine ax rfl (λK hK=>?_);rw[if_pos (by rfl)];refine fo jk (.tmp 57) (.tmp 67) (by rfl) (cc.aj e1) cX (jY ⟨q.1,5,bV (f.params.take k)⟩) (by rfl) (by rfl) (by rfl) ad ad (ay e1.size) ?_;intro A2 c2 cS al aC cn cb;have be:Ext w cS:=Fr.low (M:=λb=>w.heap.size<=b) (((b2.trans e1).mono λ_ h=>h.elim).trans (aC.mono λb O=>by have:=(cc.lt O).1;omega)) λ_ h=>h;have ao:∀b,(Value.slice A (ln+k) c).ownBlock=some b->W.heap.size<=b/\b≠g/\b≠o:=λb O=>⟨(cc.lt O).1,λe=>by subst e;exact bz.1 O,λe=>by subst e;exact bz.2 O⟩
  have cf:=(ec.aj e1).on aC λO=>by have:=(ao _ O).1;omega
  have cR:=(dy.aj e1).on aC λO=>by have:=(ao _ O).1;omega
  have kg:=(bj.aj e1).on aC λO=>(ao _ O).2.1 rfl;have d5:=(bM.aj e1).on aC λO=>(ao _ O).2.2 rfl;have aZ:(Value.slice A2 (ln+k+1) c2).ownBlock≠some g/\(Value.slice A2 (ln+k+1) c2).ownBlock≠some o:=by
   exact zI
  have bX:=gr al be cf cR kg d5 aZ;clear al aC cn be ao cf cR aZ a0 ai af bq am aG c0 cl b1 e1 cX h0 bP bg cM es en ev;obtain⟨bq,am,aG⟩:=kg.two;obtain⟨c0,cl,b1⟩:=d5.two;clear kg d5;refine dX hK ?_;clear hK K
  iterate 2 refine pf ?_
  exact eS
 | false=>
  rw[bs] at bP;go_wp2;refine eJ (λb=>Y.heap.size<=b) [(0,3),(1,3),(2,3),(3,3),(4,0),(5,3),(6,0),(7,3),(8,3),(9,3),(10,0),(11,3),(12,0),(13,3),(14,1),(15,2),(16,3),(17,3),(18,2)] ?_
  iterate 4 refine pf ?_
  refine oH ?_;refine pf ?_;refine oH ?_
  iterate 3 refine pf ?_
  refine oH ?_;refine pf ?_;refine oH ?_;refine pf ?_;refine rb ?_;generalize hV:World.drew (World.alloc _ _)=dD;have e1:=gQ hV;have cX:au dD Y 105 #[.string q.1,(4:Int),.int .i64 (cj (f.params.take k))]:=hV▸(Mp).drew;clear hV;refine ax rfl (λK hK=>?_);rw[if_pos (by rfl)];refine fo jk (.tmp 79) (.tmp 89) (by rfl) (cc.aj e1) cX (jY ⟨q.1,4,cj (f.params.take k)⟩) (by rfl) (by rfl) (by rfl) ad ad (ay e1.size) ?_;intro A2 c2 cS al aC cn cb;have be:Ext w cS:=Fr.low (M:=λb=>w.heap.size<=b) (((b2.trans e1).mono λ_ h=>h.elim).trans (aC.mono λb O=>by have:=(cc.lt O).1;omega)) λ_ h=>h;have ao:∀b,(Value.slice A (ln+k) c).ownBlock=some b->W.heap.size<=b/\b≠g/\b≠o:=λb O=>⟨(cc.lt O).1,λe=>by subst e;exact bz.1 O,λe=>by subst e;exact bz.2 O⟩
  have cf:=(ec.aj e1).on aC λO=>by have:=(ao _ O).1;omega
  have cR:=(dy.aj e1).on aC λO=>by have:=(ao _ O).1;omega
  have kg:=(bj.aj e1).on aC λO=>(ao _ O).2.1 rfl;have d5:=(bM.aj e1).on aC λO=>(ao _ O).2.2 rfl;have aZ:(Value.slice A2 (ln+k+1) c2).ownBlock≠some g/\(Value.slice A2 (ln+k+1) c2).ownBlock≠some o:=by
   exact zI
  have bX:=gr al be cf cR kg d5 aZ;clear al aC cn be ao cf cR aZ a0 ai af bq am aG c0 cl b1 e1 cX h0 bP bg cM es en ev;obtain⟨bq,am,aG⟩:=kg.two;obtain⟨c0,cl,b1⟩:=d5.two;clear kg d5;refine dX hK ?_;clear hK K
  iterate 2 refine pf ?_
  refine ax rfl (λK hK=>?_);go_simp;refine dX hK ?_;clear hK K;refine aF ?_;clear bq am aG;generalize hX:World.setCell _ _ _=X;have b4:=cp hX;have a8:=bX.2.2.2.2.2.1.on b4 ad;have m:au X g 163 #[.slice GA gn gc,.slice MA mn mc,.slice FA fn fc,.slice A2 (ln+k+1) c2,(0:Int),(0:Int),(0:Int),(0:Int),(),()]:=hX▸bX.2.2.2.2.1.aN 3 _;have aN:=ag b4 m;clear c0 cl b1 hX b4 m;obtain⟨c0,cl,b1⟩:=a8.two;have cY:=ae a8;clear a8;have bt:=mO (f.params.take k);have aM:=iM (f.params.take k);have dB:(f.params.take k).length<=2:=by rw[List.length_take];omega
  have cC:wrap64 (cj (f.params.take k)+1)=cj (f.params.take k)+1:=IntWalk.wrap64_in _ ad;go_upto_region 5 with(fail);generalize bY:World.setCell _ _ _=b5
  try rw[cC] at bY
  have I:=cp bY;obtain⟨al,be,cf,cR,_,_,aZ⟩:=bX.o;obtain⟨b4,m⟩:=aN.o;have ak:=(T.o:W.heap.size<=g)
  have r1:Gr (λ_=>False) W.heap.size 105 3 b5 A2 (ln+(k+1)) c2 ((bp p++dY (f.params.take (k+1)) 0 0).map b0):=by
   exact Hr
  have gT:Ext w b5:=Fr.low (M:=λb=>w.heap.size<=b) ((be.mono λ_ h=>h.elim).trans ((b4.mono λb O=>ad).trans (I.mono λb O=>ad))) λ_ h=>h;have gW:=(cf.on b4 ad).on I ad;have f0:=(cR.on b4 ad).on I ad;have rg:=m.on I ad;have ro:au b5 o 71 #[.string f.name,.int .i64 (cj (f.params.take (k+1))),.int .i64 (bV (f.params.take (k+1))),(0:Int),()]:=by
   rw[aY bN.o,(lr _ _).1,(lr _ _).2,bs,<-bY];simpa using cY.aN 1 _
  exact zE
 ):p:=h
theorem vO(h:p:=by
 refine(ej A (ln+k) c _ q.1 V.drew (cu.on (Fr.ext bo.drew)) ad).mono ?_;rintro e aS ⟨rfl,ar⟩;rw[a9];simp only[jb];refine dX hK ?_;clear hK K
 iterate 3 refine tf ?_
 have cK:=aQ.aj (Fr.aG ar);have aO:=bo.trans (Fr.aG ar);clear aQ bo ar;exact key wr aS ⟨aO,cK,LK _⟩
 ):p:=h
theorem sJ(h:p:=by
 have er:((bp p).map b0).length=ln:=hl.1;have dw:ln<=100:=by rw[<-hl.1,LO,k3];omega
 have bi:f.params.length=pn:=by rw[<-bO.1,LO]
 have dW:pn<=2:=by have:=(hp.funcs f J).ja;omega
 obtain⟨ct,dp,cU,b3,b6,b7,dr⟩:=DE hp J hm cI hl bO bl;have S:=ag er bi;clear h aR hm cI hl bO bl hp J dx lm lf er bi;go_enter func35,ntmps35;go_upto_region 1 with(fail);generalize ba:World.alloc _ _=W;have aw:=lD ba;have bI:=jx ba;have ck:=h6 ba;have cH:=jy ba;have cN:=aw.size;obtain⟨br,N,bE⟩:=ef aw ck cH;have y:=kM ((b6.on (Fr.ext aw)).on (Fr.ext (Fr.refl _ W).drew));obtain⟨a0,ai,af⟩:=bI.two;have eD:¬W<=w.heap.size:=by have:=cH.lt;omega
 have cB:w+2<W.heap.size:=cH.lt;clear ba aw bI ck cH;refine eJ (λb=>W.heap.size<=b) [(0,0),(2,3),(1,1),(3,1),(4,3),(5,2),(6,3)] ?_;refine oH ?_;refine pf ?_;refine rb ?_;generalize hV:World.drew (World.alloc _ _)=fh;have e1:=gQ hV;have dd:Gr (λ_=>False) W 105 3 fh (some ⟨W,0,none⟩) 0 0 []:=hV▸(Gr.lit (w:=W) (n:=0) (l:=[]) rfl (by rfl) ad (by simp only[D.aM])).aj Mo.drew;have dU:=kM (b6.on (Fr.ext (br.trans e1)));clear hV y;refine aB rfl (λK hK=>?_);rw[if_pos (by rfl)];refine ju jk (.tmp 16) (.tmp 17) (by rfl) dd (k7 (bp p)) S.1 dU (λh=>by subst h;exact Sl.none_ b6.o) (by rfl) (by rfl) ad ad e1.size ?_;intro aP cx aT bT f1 o1 c1;refine dq hK (f1.mono λb O=>ad) ?_;clear hK K;have e2:Ext W aT:=Fr.low (M:=λb=>W.heap.size<=b) ((e1.mono λ_ h=>h.elim).trans (f1.mono λb O=>ad)) λ_ h=>h;have cg:=λb O=>(bT.lt (g:=b) O)
 have eL:W<=aT.heap.size:=e2.size;refine pf ?_;refine ax rfl (λK hK=>?_);go_simp;generalize hV:World.alloc _ _=eK;have e3:=aU hV;have cF:=aI hV;refine dX hK ?_;clear hK K;refine pf ?_;refine aF ?_;have cd:=ae (br.trans (e2.trans e3));have aE:=ae (bT.aj e3);have c3:=N.aj (e2.trans e3);have dE:=ae c3;have bf:=ae (bE.aj (e2.trans e3));have bj:=ae cF;have bB:w+3<=aT.heap.size:=by have:=e2.size;have:=bE.lt;omega
 have bm:∀b,(Value.slice aP ln cx).ownBlock=some b->W.heap.size<=b/\b<aT.heap.size:=λb O=>cg b O;have aD:=ae bm;clear hV e1 dd dU bT f1 o1 c1 e2 e3 cF cg eD a0 ai af br N bE bm;obtain⟨a0,ai,af⟩:=c3.two;clear c3;generalize eE:aT.heap.size=g at *;go_upto_region 3 with(fail);generalize hV:World.alloc _ _=V;have L:=aU hV;have c5:=aI hV;have cG:g<eK:=bj.lt;generalize d3:eK.heap.size=o at *;have aK:=ae (show Gr (λ_=>False) W 105 3 V aP ln cx ((bp p).map b0)/\(Value.slice aP ln cx).ownBlock≠some g/\(Value.slice aP ln cx).ownBlock≠some o/\Ext w V/\au V (w.heap.size+1) 96 #[.string f.name,.slice PA pn pc,.slice ce bn bc]/\
   au V (w.heap.size+2) 71 #[Mq,(0:Int),(0:Int),(0:Int),()]/\au V g 163 #[.slice GA gn gc,.slice MA mn mc,.slice FA fn fc,.slice aP ln cx,(0:Int),(0:Int),(0:Int),(0:Int),(),()]/\au V o 71 #[.string f.name,(0:Int),(0:Int),(0:Int),()] from
  ⟨aE.aj L,λO=>by have:=aD.o _ O;omega,λO=>by have:=aD.o _ O;omega,cd.trans L,dE.aj L,bf.aj L,bj.aj L,c5⟩)
 have em:W<=g:=ad;clear hV L c5 aE cd dE bf bj a0 ai af aD eE d3;have T:=ae em;obtain⟨cq,bS,cQ,du,fg,dj,eI,eO⟩:=aK.o;have dI:=ae (show Gr (λ_=>False) W.heap.size 105 3 V aP (ln+0) cx ((bp p++dY (f.params.take 0) 0 0).map b0)/\(Value.slice aP (ln+0) cx).ownBlock≠some g/\(Value.slice aP (ln+0) cx).ownBlock≠some o/\Ext w V/\au V (w.heap.size+1) 96 #[.string f.name,.slice PA pn pc,.slice ce bn bc]/\au V (w.heap.size+2) 71 #[Mq,(0:Int),(0:Int),(0:Int),()]/\au V g 163 #[.slice GA gn gc,.slice MA mn mc,.slice FA fn fc,.slice aP (ln+0) cx,(0:Int),(0:Int),(0:Int),(0:Int),(),()]/\au V o 71 #[.string f.name,.int .i64 (cj (f.params.take 0)),.int .i64 (bV (f.params.take 0)),(0:Int),()] from ⟨by simpa[dY] using cq,bS,cQ,du,fg,dj,eI,by simpa[cj,bV] using eO⟩);clear cq bS cQ du fg dj eI eO;go_wp2
 go_loopw [12] (λcA wr=>∃(k:Nat) (A:Mt) (c:Nat),k<=pn/\cA=.int .i64 k/\Gr (λ_=>False) W.heap.size 105 3 wr A (ln+k) c ((bp p++dY (f.params.take k) 0 0).map b0)/\(Value.slice A (ln+k) c).ownBlock≠some g/\(Value.slice A (ln+k) c).ownBlock≠some o/\Ext w wr/\au wr (w.heap.size+1) 96 #[.string f.name,.slice PA pn pc,.slice ce bn bc]/\au wr (w.heap.size+2) 71 #[Mq,(0:Int),(0:Int),(0:Int),()]/\au wr g 163 #[.slice GA gn gc,.slice MA mn mc,.slice FA fn fc,.slice A (ln+k) c,(0:Int),(0:Int),(0:Int),(0:Int),(),()]/\au wr o 71 #[.string f.name,.int .i64 (cj (f.params.take k)),.int .i64 (bV (f.params.take k)),(0:Int),()]) (λcA _=>pn - (intOf cA).toNat)
 case atStart=>exact⟨0,aP,cx,ad,rfl,dI.o⟩
 case round=>
  obtain⟨k,A,c,aj,rfl,hG,di,dk,aw,ck,cH,cF,c5⟩:=hrel;clear aK dI;have bH:=ae hG;have bz:=ag di dk;obtain⟨br,N,bE,bj,bM⟩:=Di aw ck cH cF c5;obtain⟨a0,ai,af⟩:=ck.two;obtain⟨bq,am,aG⟩:=cF.two;have a6:=aw.size;by_cases an:k<pn
  .obtain⟨pb,gU,q,cs,rfl,cZ,bK,bL,bh,a4⟩:=(b7.on (Fr.ext aw)).hf rF an;obtain rfl:=nZ.1 bL;have h0:=a4 0 _ rfl;have bP:=a4 1 _ rfl;simp only[LW] at h0;have bg:pb<wr:=cZ;have bN:=ae bK;have a9:dJ (bp p++dY (f.params.take k) 0 0) q.1=none:=by
    refine jZ λj x bd hx=>?_;have aW:=(ct.funcs f dp.o).fresh;have d7:x.name∈(bp p++dY (f.params.take k) 0 0).map (·.name):=Mf.2 ⟨x,LN bd,rfl⟩;rw[LR,gf,fZ] at d7;have dz:f.params=f.params.take k++q::f.params.drop (k+1):=by
     have:=List.take_append_drop k f.params;rw[<-this];congr 1
     .rw[this]
     .rw[this,List.drop_eq_getElem?_toList_append,bK];rfl
    rw[dz,LR,LQ,<-List.append_assoc,List.nodup_append] at aW;exact aW.2.2 _ d7 q.1 (by simp) hx
   have y:=bH.sl (Q:=aq wr) (λb _ h=>h.elim) (λb h _=>h);have cu:=ae y;clear bL bh a4 cZ bK hG di dk aw ck cH cF c5 y;go_upto_region 6 with(fail);refine r0 (λ_=>False) [10,15] (.free 0 (.free 1 (.free 2 (.held 3 (.free 4 (.held 5 (.free 6 (.free 7 (.free 8 (.held 9 (.pick [10,14] (λi=>bif i == 10 then .free 11 (.free 12 (.free 13 (.pick [14] (λ_=>.pick [15] (λ_=>.free 16 (.stop)))))) else .pick [10] (λ_=>.free 11 (.free 12 (.free 13 (.pick [15] (λ_=>.free 16 (.stop)))))))))))))))))) ?_
   iterate 3 refine tf ?_
   refine th ?_;refine tf ?_;refine th ?_
   iterate 3 refine tf ?_
   refine th ?_;refine lz (P:=?KH) (ops:=?KQ) (Q:=?KR) (R:=?KS) (tails:=?KT) (rest:=.pick [15] (λ_=>.free 16 (.stop))) (aa:=?KI) (C:=λdh V=>Ext wr V/\au V dh 105 #[Mq,(0:Int),(0:Int)]/\wr.heap.size<=dh) (λkey=>?JD) ?Jz
   case JD=>
    refine a2 ?_ ?_
    ·
     refine bR rfl (λK hK=>?_) rfl;go_simp;refine(ej A (ln+k) c _ q.1 wr.drew (cu.on (Fr.ext Mo.drew)) ad).mono ?_;rintro e aS ⟨rfl,ar⟩;rw[a9];simp only[jb];refine dX hK ?_;clear hK K
     iterate 3 refine tf ?_
     refine av ?_;refine eu ?_;generalize hV:World.alloc _ _=V;have aQ:=aI hV;have bo:Ext wr V:=hV▸(Fr.aG ar).alloc _;exact vq
    ·
     exact vN
   case Jz=>
    rintro dh V ⟨bo,b8,ak⟩;obtain⟨c0,cl,b1⟩:=b8.two;exact fQ
  .obtain rfl:pn=k:=ad;rw[LS (by rw[S.2];exact LK _)] at hG c5;have bZ:=bM.o;rw[LS (by rw[S.2];exact LK _)] at bZ;clear bH bM c5;obtain⟨bH,bM⟩:=aJ hG bZ;obtain⟨c0,cl,b1⟩:=bZ.two;clear hG di dk aw ck cH cF bZ;go_upto_region 15 with(fail);generalize hX:World.setCell _ _ _=X;have b4:=cp hX;have m:au X g 163 #[.slice GA gn gc,.slice MA mn mc,.slice FA fn fc,.slice A (ln+pn) c,.int .i64 (cj f.params),(0:Int),(0:Int),(0:Int),(),()]:=hX▸bj.aN 4 _;have d8:w<=g:=by have:=(T.o:W.heap.size<=g);omega
   have bu:Ext w X:=Fr.low (M:=λb=>w.heap.size<=b) ((br.mono λ_ h=>h.elim).trans (b4.mono λb O=>ad)) λ_ h=>h;have bU:=bH.dr (ab:=X) b4.size λb an hp=>b4.block b an λhe=>by
    subst he;rcases hp with hp|hp
    .exact hp.elim
    .exact bz.1 hp
   have bC:∀b,aq w b->off (Ms g (.slice none 0 0) (.slice none 0 0)) X b:=λb O=>⟨LL O bu.size,λhm=>by
    rcases hm with hm|hm|hm
    .have:b<w:=O;omega
    .cases hm
    .cases hm⟩
   have dR:=(cU.ai (ab:=X) λb O=>bu.block b O λh=>h).mono bC;have cE:=(b3.ai (ab:=X) λb O=>bu.block b O λh=>h).mono bC;have dM:=(dr.ai (ab:=X) λb O=>bu.block b O λh=>h).mono bC;have dV:Sl X (off (Ms g (.slice none 0 0) (.slice none 0 0)) X) A (ln+pn) ((bp p++dY f.params 0 0).map b0):=by
    obtain⟨d0,xs,ac,ap⟩:=bU;exact Sl.mQ ac (tY ap) d0 λb bG _ an=>⟨an,λhm=>by
     rcases hm with hm|hm|hm
     .subst hm;exact bz.1 (by rw[bG];rfl)
     .cases hm
     .cases hm⟩
   have ei:cP X g (o+1) p.af p.funcs (bp p++dY f.params 0 0) A (ln+pn) c (cj f.params) 0 [] [] none 0 none 0:=
    ⟨⟨GA,gn,gc,MA,mn,mc,FA,fn,fc,m,ad,ad,dR,cE⟩,⟨ad,by have:=b4.size;have:=b1;omega⟩,⟨ad,dV⟩,lA.nil _ _ _ _ _ _⟩
   have a5:=N.on b4 (by have:=(T.o:W.heap.size<=g);omega);obtain⟨ex,eb,bv,eF⟩:=iY ei dM bu a5;have ea:=ae (bE.on b4 (by have:=(T.o:W.heap.size<=g);omega));have ee:=ae (bM.on b4 ad);clear a0 ai af bq am aG c0 cl b1 hX b4 m bu bU bC dR cE dM dV ei;obtain⟨a0,ai,af⟩:=a5.two;clear a5;have eZ:=mO f.params;have e0:=iM f.params;have aA:=ae (show ∀b,Ms g (.slice none 0 0) (.slice none 0 0) b->w.heap.size<=b from λb hm=>by
    rcases hm with hm|hm|hm
    .omega
    .cases hm
    .cases hm)
   have dg:Sc (bx (gB p)) (h7 p f) (bp p++dY f.params 0 0) (fC p++cz f.params) (bk p++f.params.map (·.1)) (cj f.params) (bV f.params):=uP ct.o dp.o;have ew:(bx (gB p)).af=p.af:=by rw[oq]
   have z:f.body.num<=64:=L6 (js (λf:aL=>f.body.num) dp.o) ct.ja;have dm:=dZ f.body 4 _ _ _ (cj f.params) [] (ct.funcs f dp.o).body dg;have cO:(bp p++dY f.params 0 0).length<=200:=by
    have ac:=S.1;rw[LO] at ac;have ap:=congrArg List.length (fZ f.params 0 0);rw[LO,LO] at ap;have aV:=S.2;rw[LM,ac,ap];omega
   obtain⟨az,dG,eg,d1⟩:=iY dg dm ew cO;clear dg dm ew cO;go_wp2_with(fail);have bi:=S.2;have cO:=d1.o;refine(eB (bx (gB p)) (bV f.params) p.funcs f.body (h7 p f) 4 _ _ _ (cj f.params) 0 [] [] g (o+1) A (ln+pn) c none 0 none 0 ce bn bc X (ct.funcs f dp.o).body az.o (Eu ct.o dp.o) (λh ah=>by have:=(ct.funcs h ah).ja;omega) (by rw[eg.o];exact ex.o) eb.o (by simp;omega) rfl ad ad ad).mono ?_;rintro e c6 ⟨rfl,cr,cm,cw,cy,a1,bS,Z,ci⟩;have dm:=dG.o;rw[eg.o] at Z;clear bi cO dG;generalize bK:dN f.body (bp p++dY f.params 0 0) (cj f.params) []=r at *;obtain⟨r1,dQ⟩:=r;obtain⟨⟨gH,c9,eq,_⟩,ca,df⟩:=dm;simp only[Mh,L8] at bS Z ci c9 ca df;have c7:r1.length<=128:=by rw[c9];omega
   have dl:∀b,b≠g->¬Ms g (.slice none 0 0) (.slice none 0 0) b:=λb O hm=>by
    rcases hm with hm|hm|hm
    .exact O hm
    .cases hm
    .cases hm
   obtain⟨dn,d2⟩:=ea.cT (dl _ (by have:=(T.o:W.heap.size<=g);omega)) ci;obtain⟨cW,d4⟩:=ee.cT (dl _ ad) ci;obtain⟨cT,eT⟩:=aJ Z ci;obtain⟨fb,eY,eW,fe,e7,e5,e9,eU,eQ,f2,_⟩:=Z.blk;have da:=bF dn d2 cW d4;have bN:=bF bK bS ca df;clear a0 ai af Z ci dn cW c9 eq d2 d4 bK bS;obtain⟨bq,am,aG⟩:=f2.two;clear f2;clear ca df dl;go_wp2_with(fail);refine(hh cT.o nw (f.body.num:Int) (jC (is:=[]) (ps:=[]) (Sl.bS _) (Sl.bS _) (LK _) (LK _)) ad (ay bN.2.1)).mono ?_;rintro e cV ⟨rfl,dH,ds,dO,dS,cL,de⟩;have dT:=ae cL;have b9:Mv g (.slice cr r1.length cm) (.slice cw a1.length cy) c6 (.slice dH (r1++[nw]).length ds) (.slice dO (a1++[(f.body.num:Int)]).length dS) cV:=by rw[LM,LM];exact de
   have et:=ae (eT.trans b9);obtain⟨dn,d2⟩:=da.1.cT da.2.1 b9;obtain⟨cW,d4⟩:=da.2.2.1.cT da.2.2.2 b9;obtain⟨ez,eA⟩:=aJ dn cW;obtain⟨fa,eX,eV,fd,e6,e4,e8,eR,eP,cJ,_⟩:=cL.blk;have ed:=ae cJ;clear cL de b9 bq am aG;obtain⟨bq,am,aG⟩:=cJ.two;obtain⟨c0,cl,b1⟩:=cW.two;have eo:¬g=o:=ad;clear cJ cW dn;go_wp2;refine eJ (λb=>b=o) [(0,3),(1,3),(2,3),(3,0),(4,3),(5,3),(6,3),(7,0),(8,3),(9,1),(10,3),(11,2)] ?_
   iterate 3 refine pf ?_
   refine oH ?_
   iterate 3 refine pf ?_
   refine oH ?_;refine pf ?_;refine aB rfl (λK hK=>?_);go_simp;refine dq hK (Ew cV o 3 _) ?_;clear hK K;refine pf ?_;refine ax rfl (λK hK=>?_);go_simp;refine dX hK ?_;clear hK K;refine aF ?_;generalize hX:World.setCell _ _ _=gC;have a7:=FZ hX;have db:au gC o 71 #[.string f.name,.int .i64 (cj f.params),.int .i64 (bV f.params),dQ,.slice dH (r1.length+1) ds]:=hX▸(eA.aN 3 _).aN 4 _;have dP:=ed.on a7 eo;have dK:=ez.on a7 (by have:=(T.o:W.heap.size<=g);omega);obtain⟨dt,eH,dF⟩:=ef a7 db dK;clear hX a7 bq am aG c0 cl b1 dK;obtain⟨bq,am,aG⟩:=dP.two;obtain⟨c0,cl,b1⟩:=db.two;have eh:¬g=w+2:=by have:=(T.o:W.heap.size<=g);omega
   have ek:¬o=w+2:=by have:=(T.o:W.heap.size<=g);omega
   clear dP db;obtain⟨d6,dv,dA⟩:=dF.two;go_wp2;refine eJ (λb=>b=w.heap.size+2) [(0,0),(1,3),(2,3),(3,3),(4,0),(5,3),(6,3),(7,3),(8,0),(9,3),(10,3),(11,3),(12,0),(13,1),(14,3),(15,3),(16,3)] ?_;refine GB ?_
   iterate 3 refine pf ?_
   refine GB ?_
   iterate 3 refine pf ?_
   refine GB ?_
   iterate 3 refine pf ?_
   refine GB ?_;refine aB rfl (λK hK=>?_);go_simp;generalize hX:World.setCell _ _ _=d9;obtain⟨cJ,_,bW⟩:=bA (w:=w) [.string f.name,.int .i64 (cj f.params),.int .i64 (bV f.params),dQ,.slice dH (r1.length+1) ds] (by rfl) dF.o (Fr.low (M:=λb=>w.heap.size<=b) ((bv.mono λ_ h=>h.elim).trans ((et.fr.mono λb hm=>aA.o b hm).trans (dt.mono λb O=>by have:=(T.o:W.heap.size<=g);omega))) λ_ h=>h) (Nat.le_add_right _ _) hX;refine dq hK (ub (ub bW)) ?_;clear hK K
   iterate 3 refine pf ?_
   refine aF ?_;obtain⟨bD,eM,eN⟩:=cJ.two;have ey:=ag bW cJ;clear bq am aG c0 cl b1 d6 dv dA hX bW cJ;go_wp2;refine Mn (v:=.tuple #[.agg #[.string f.name,.int .i64 (cj f.params),.int .i64 (bV f.params),dQ,.slice dH (r1.length+1) ds],.slice dO (a1.length+1) dS,(0:Int),(0:Int)]) (by simp[results,Tryz.results35,go_sem,bD]) rfl ?_;obtain⟨bW,cJ⟩:=ey.o;have ak:=(T.o:W.heap.size<=g)
   have ep:eG p f=⟨f.name,cj f.params,bV f.params,dQ,r1++[nw]⟩:=by
    unfold eG;simp only[bN.1]
   have cv:Ext w d9:=Fr.low (M:=λb=>w.heap.size<=b) ((bv.mono λ_ h=>h.elim).trans ((et.fr.mono λb hm=>aA.o b hm).trans ((dt.mono λb O=>ad).trans (bW.mono λb O=>ad)))) λ_ h=>h;have bJ:=dT.rows.one;have bb:=bJ.cap.1;have eC:Gr _ _ _ _ d9.drew.drew _ _ _ _:=(((bJ.dr (ab:=gC) dt.size λb an hp=>dt.block b an λhe=>by
    rcases hp with hp|hp
    .have:=hp.1;omega
    .have:=(bJ.lt hp).1;omega).dr (ab:=d9) bW.size λb an hp=>bW.block b an λhe=>by
    rcases hp with hp|hp
    .have:=hp.1;omega
    .have:=(bJ.lt hp).1;omega).aj (Fr.refl _ d9).drew).aj (Fr.refl _ d9.drew).drew
   have el:=eC.sl (Q:=fresh w d9.drew.drew) (λb ac ap=>⟨by have:=ap.1;omega,ac⟩) (λb ac ap=>⟨ad,ac⟩);rw[LM] at el bb;refine⟨dH,r1.length+1,ds,dO,a1.length+1,dS,by rw[ep],?_,cv.drew.drew⟩;rw[ep];exact yM.2 ⟨dH,r1.length+1,ds,rfl,bb,el⟩
 ):p:=h
end Dj
open Dj in
theorem sY(eB:∀U nk F b,lN U nk F b)(p:bQ)(hp:oJ p)(f:aL)(J:f∈p.funcs)(GA:Mt)(gn gc:Nat)(MA:Mt)(mn mc:Nat)(FA:Mt)(fn fc:Nat)(bw:Mt)(ln lc:Nat)(PA:Mt)(pn pc:Nat)(ce:Mt)(bn bc:Nat)(w:World)
  (h:hL w (aq w) p GA gn MA mn FA fn) (hl:Sl w (aq w) bw ln ((bp p).map b0)) (bO:Sl w (aq w) PA pn (f.params.map cD)) (bl:Sl w (aq w) ce bn (dc f.body)) :
  Calls prog 35 #[.agg #[.slice GA gn gc,.slice MA mn mc,.slice FA fn fc],.slice bw ln lc,.agg #[.string f.name,.slice PA pn pc,.slice ce bn bc]] w (Je w (eG p f)):=by
 have aR:=h.g;have hm:=h.m;have cI:=h.f;have dx:p.globals.length=gn:=by rw[<-aR.1,LO]
 have lm:p.af.length=mn:=by rw[<-hm.1,LO]
 have lf:p.funcs.length=fn:=by rw[<-cI.1,LO]
 exact sI
end Go.Proofs.YtpkfopfkdgkfkaaGreat
