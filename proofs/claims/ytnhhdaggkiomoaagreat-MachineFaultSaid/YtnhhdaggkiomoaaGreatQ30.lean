/- Part 30 of the proof. No condition of its own. -/
import Derived.Test.YtnhhdaggkiomoaaGreatQ13
import Derived.Test.YtnhhdaggkiomoaaGreatQ28
namespace Go.Proofs.YtnhhdaggkiomoaaGreat
open Go.RowKit Go.Proofs.Tryz
set_option maxRecDepth 1000000
set_option maxHeartbeats 25600000
set_option linter.unusedVariables false
variable{i:Nat}{p:Prop}{w:World}{e:dL}
theorem my{α:Type}(f:α→ByteArray)(k:Int):∀(l:List α) (j i:Nat),(iB f k l j)[i]?=(l[i]?).map fun x=>⟨f x,k,((j+i:Nat):Int)⟩
 | [],j,i=>by simp[iB]
 | x::l,j,0=>by simp[iB]
 | x::l,j,i+1=>by
  rw[iB,List.getElem?_cons_succ,List.getElem?_cons_succ,my f k l (j+1) i,show j+1+i=j+(i+1) by omega]
theorem eD{α:Type}(f:α→ByteArray)(k:Int):∀(l:List α) (j:Nat),(iB f k l j).length=l.length
 | [],_=>rfl
 | x::l,j=>by simp[iB,eD f k l (j+1)]
theorem kQ(p:bM):(bo p).length=p.globals.length+p.af.length+p.funcs.length:=by simp[bo,eD];omega
theorem E2{p:bM}{g:ByteArray×Int}(h:p.globals[i]?=some g):(bo p)[i]?=some ⟨g.1,1,(i:Int)⟩:=by
 have hl:=(List.getElem?_eq_some_iff.1 h).1;unfold bo;rw[List.getElem?_append_left (by simp[eD];omega),List.getElem?_append_left (by simp[eD];omega),my,h];simp
theorem E3{p:bM}{m:bI}(h:p.af[i]?=some m):(bo p)[p.globals.length+i]?=some ⟨m.name,2,(i:Int)⟩:=by
 have hl:=(List.getElem?_eq_some_iff.1 h).1;unfold bo;rw[List.getElem?_append_left (by simp[eD];omega),List.getElem?_append_right (by simp[eD]),eD,my,show p.globals.length+i - p.globals.length=i by omega,h];simp
theorem xy{p:bM}{f:aK}(h:p.funcs[i]?=some f):(bo p)[p.globals.length+p.af.length+i]?=some ⟨f.name,3,(i:Int)⟩:=by
 unfold bo;rw[List.getElem?_append_right (by simp[eD]),KI,eD,eD,my,show p.globals.length+p.af.length+i - (p.globals.length+p.af.length)=i by omega,h];simp
theorem kA{L:List dL}(hn:(L.map (·.name)).Nodup)(he:L[i]?=some e):dB (L.take i) e.name=none:=by
 refine jR fun j x bi hx=>?_;have az:j<i:=by have:=(List.getElem?_eq_some_iff.1 bi).1;simp at this;omega
 have f:L[j]?=some x:=by rw[←bi,List.getElem?_take_of_lt az]
 have ac:(L.map (·.name))[j]?=some x.name:=by rw[List.getElem?_map,f];rfl
 have av:(L.map (·.name))[i]?=some e.name:=by rw[List.getElem?_map,he];rfl
 have aV:=(List.getElem?_eq_some_iff.1 ac).1;have cD:=(List.getElem?_eq_some_iff.1 av).1;rw[List.getElem?_eq_getElem aV] at ac;rw[List.getElem?_eq_getElem cD] at av;injection ac with ac;injection av with av;have:=(List.getElem_inj hn).1 (ac.trans (hx.trans av.symm));omega
theorem nM{p:bM}(hp:ox p):((bo p).map (·.name)).Nodup:=by rw[fO];exact hp.nodup
def EO(w:World)(p:bM)(e:Ending)(ab:World):Prop:=∃(S:Ls) (lc:Nat),e=.returned (.tuple #[.slice S (bo p).length lc,.int .i64 (-1)])∧Sl ab (fresh w ab) S (bo p).length ((bo p).map bZ)∧Ext w ab
theorem nF{p:bM}{k:Nat}(h:(bo p)[k]?=some e):((bo p).take (k+1)).map bZ=((bo p).take k).map bZ++[bZ e]:=by rw[aZ h,KN];rfl
namespace BQ
theorem dC(h:p:=by
 generalize hV:World.drew (World.alloc _ _)=V;have L:=gF hV;have b5:aq V wr.heap.size 152 #[.string f.name,.int .i64 3,.int .i64 j]:=hV▸(Lp).drew;obtain⟨cn,aJ⟩:=aI L b5;have a4:=ae (bq.trans L);have cb:=ae (b2.ai L);have P:=ae (bT.ai L);have a6:=kA n.o d;have y:=P.sl (Q:=au V) (fun b _ h=>h.elim) (fun b _ h=>by assumption);clear hV L b5 c0 aX a0 ai af;obtain⟨d0,aL,aM⟩:=aJ.two;go_wp2_with(fail);refine(dV A (gn+mn+j) c _ f.name _ y ad).mono ?_;rintro e aS ⟨rfl,ar⟩
 try simp only at a6
 rw[a6];simp only[iU];have a9:=ae (a4.trans ar);have a7:=ae (cb.ai ar);have bd:=ae (P.ai ar);have i:=aJ.ai ar;clear d0 aL aM ar y;go_upto_region 15 with(fail);generalize cr:World.alloc _ _=Y;have s:=aU cr;have l:=i.ai s;have r:=ae (bd.ai s);have cj:=ae (a9.trans s);have T:=ae (a7.ai s);clear cr i s;obtain⟨d0,aL,aM⟩:=l.two;have c4:=cj.size;have bu:=T.lt;clear l;go_wp2_with((at_builtin;refine bQ jd rfl (.tmp 88) (.tmp 90) rfl r.o (jQ ⟨f.name,3,(j:Int)⟩) rfl rfl rfl ad ad ad ?_;intro A2 c2 aT bB az al b9));have aP:Gr (fun _=>False) (w.heap.size+1) 152 3 aT A2 (gn+mn+j+1) c2 (((bo p).take (gn+mn+j+1)).map bZ):=by rw[nF d];exact bB
 have bX:Ext w aT:=Fr.low (M:=fun b=>w.heap.size≤b) ((cj.mono fun _ h=>h.elim).trans (az.mono fun b O=>by have:=(r.lt O).1;omega)) fun _ h=>h;have ce:=T.on az fun O=>by have:=(r.lt O).1;omega
 have b4:=aB aP bX ce;clear aP bX ce bB az al d0 aL aM;go_wp2;go_roundw
 case rel=>exact⟨rfl,(gn+mn+j)+1,A2,c2,ad,by go_num,rfl,b4.o⟩
 case measure=>exact aH
 ):p:=h
theorem su(h:p:=by
 have n:=ae (nM hp);obtain⟨cC,cR,bV⟩:=eh a2 hm J;have F:=ae (kQ p);have cw:(bo p).length=gn+mn+fn:=by rw[kQ,dv,lm,lf]
 have ca:=aB dv lm lf;clear h a2 hm J hp dv lm lf;go_enter func79,ntmps79;go_upto_region 1 with(fail);generalize ba:World.alloc _ _=W;have aw:=aU ba;have aR:=aG ba;obtain⟨bq,b2⟩:=aI aw aR;obtain⟨a0,ai,af⟩:=aR.two;clear ba aw aR;go_wp2;clear a0 ai af;go_loopw [4,5,7] (fun gQ bv cu wr=>bv=.int .i64 (-1)∧∃(k:Nat) (A:Ls) (c:Nat),k≤gn+mn+fn∧cu=.int .i64 k∧gQ=.slice A k c∧Gr (fun _=>False) (w.heap.size+1) 152 3 wr A k c (((bo p).take k).map bZ)∧Ext w wr∧aq wr w.heap.size 27 #[.slice GA gn gc,.slice MA mn mc,.slice FA fn fc]) (fun _ _ cu _=>gn+mn+fn - (intOf cu).toNat)
 case atStart=>exact⟨rfl,0,none,0,ad,rfl,rfl,Gr.nil _ _ _ _ _,bq.o,b2.o⟩
 case round=>
  obtain⟨rfl,k,A,c,ap,rfl,rfl,hG,aw,aR⟩:=hrel;clear bq b2;obtain⟨bT,bq,b2⟩:=eh hG aw aR;obtain⟨a0,ai,af⟩:=aR.two;have m1:=aw.size;clear hG aw aR;by_cases ak:k<gn+mn+fn
  ·by_cases ac:k<gn
   ·
    obtain⟨b,o,g,cs,rfl,O,hx,a5,bp,Z⟩:=(cC.on (Fr.ext bq.o)).gZ oG ac;obtain rfl:=mv.1 a5;have c0:=Z 0 _ rfl;simp only[KQ] at c0;have aX:b<wr.heap.size:=O;have d:=E2 hx;have q1:decide ((k:Int) - (gn:Int)<0)=true:=by first|(simp;done)|(simp;omega)
    clear a5 bp Z hx O;go_upto_region 14 with(fail);generalize hV:World.alloc _ _=V;have L:=aU hV;have b5:=aG hV;obtain⟨cn,aJ⟩:=aI L b5;have a4:=ae (bq.trans L);have cb:=ae (b2.ai L);have P:=ae (bT.ai L);have a6:=kA n.o d;have y:=P.sl (Q:=au V) (fun b _ h=>h.elim) (fun b _ h=>by assumption);clear hV L b5 c0 aX a0 ai af;obtain⟨d0,aL,aM⟩:=aJ.two;go_wp2_with(fail);refine(dV A k c _ g.1 _ y ad).mono ?_;rintro e aS ⟨rfl,ar⟩
    try simp only at a6
    rw[a6];simp only[iU];have a9:=ae (a4.trans ar);have a7:=ae (cb.ai ar);have bd:=ae (P.ai ar);have i:=aJ.ai ar;clear d0 aL aM ar y;go_upto_region 15 with(fail);generalize cr:World.alloc _ _=Y;have s:=aU cr;have l:=i.ai s;have r:=ae (bd.ai s);have cj:=ae (a9.trans s);have T:=ae (a7.ai s);clear cr i s;obtain⟨d0,aL,aM⟩:=l.two;have c4:=cj.size;have bu:=T.lt;clear l;go_wp2_with((at_builtin;refine bQ jd rfl (.tmp 88) (.tmp 90) rfl r.o (jQ ⟨g.1,1,(k:Int)⟩) rfl rfl rfl ad ad ad ?_;intro A2 c2 aT bB az al b9));have aP:Gr (fun _=>False) (w.heap.size+1) 152 3 aT A2 (k+1) c2 (((bo p).take (k+1)).map bZ):=by rw[nF d];exact bB
    have bX:Ext w aT:=Fr.low (M:=fun b=>w.heap.size≤b) ((cj.mono fun _ h=>h.elim).trans (az.mono fun b O=>by have:=(r.lt O).1;omega)) fun _ h=>h;have ce:=T.on az fun O=>by have:=(r.lt O).1;omega
    have b4:=aB aP bX ce;clear aP bX ce bB az al d0 aL aM;go_wp2;go_roundw
    case rel=>exact⟨rfl,k+1,A2,c2,ad,by go_num,rfl,b4.o⟩
    case measure=>exact aH
   ·by_cases av:k - gn<mn
    ·
     obtain⟨b,o,m,cs,rfl,O,hx,a5,bp,Z⟩:=(cR.on (Fr.ext bq.o)).gZ sJ av;obtain rfl:=fb.1 a5;have c0:=Z 0 _ rfl;simp only[KQ] at c0;have aX:b<wr.heap.size:=O;have d:=E3 hx;obtain⟨j,bi⟩:∃j,k=gn+j:=⟨k - gn,ad⟩
     subst bi;have cK:gn+j - gn=j:=ad;rw[cK] at c0 av d hx;rw[ca.1] at d;have q:(gn:Int)+(j:Int) - (gn:Int)=(j:Int):=ad;have q1:decide ((j:Int)<0)=false:=by first|(simp;done)|(simp;omega)
     have cB:((j:Int)<(mn:Int)):=ad;clear a5 bp Z hx O;go_upto_region 14 with(fail);generalize hV:World.alloc _ _=V;have L:=aU hV;have b5:=aG hV;obtain⟨cn,aJ⟩:=aI L b5;have a4:=ae (bq.trans L);have cb:=ae (b2.ai L);have P:=ae (bT.ai L);have a6:=kA n.o d;have y:=P.sl (Q:=au V) (fun b _ h=>h.elim) (fun b _ h=>by assumption);clear hV L b5 c0 aX a0 ai af;obtain⟨d0,aL,aM⟩:=aJ.two;go_wp2_with(fail);refine(dV A (gn+j) c _ m.name _ y ad).mono ?_;rintro e aS ⟨rfl,ar⟩
     try simp only at a6
     rw[a6];simp only[iU];have a9:=ae (a4.trans ar);have a7:=ae (cb.ai ar);have bd:=ae (P.ai ar);have i:=aJ.ai ar;clear d0 aL aM ar y;go_upto_region 15 with(fail);generalize cr:World.alloc _ _=Y;have s:=aU cr;have l:=i.ai s;have r:=ae (bd.ai s);have cj:=ae (a9.trans s);have T:=ae (a7.ai s);clear cr i s;obtain⟨d0,aL,aM⟩:=l.two;have c4:=cj.size;have bu:=T.lt;clear l;go_wp2_with((at_builtin;refine bQ jd rfl (.tmp 88) (.tmp 90) rfl r.o (jQ ⟨m.name,2,(j:Int)⟩) rfl rfl rfl ad ad ad ?_;intro A2 c2 aT bB az al b9));have aP:Gr (fun _=>False) (w.heap.size+1) 152 3 aT A2 (gn+j+1) c2 (((bo p).take (gn+j+1)).map bZ):=by rw[nF d];exact bB
     have bX:Ext w aT:=Fr.low (M:=fun b=>w.heap.size≤b) ((cj.mono fun _ h=>h.elim).trans (az.mono fun b O=>by have:=(r.lt O).1;omega)) fun _ h=>h;have ce:=T.on az fun O=>by have:=(r.lt O).1;omega
     have b4:=aB aP bX ce;clear aP bX ce bB az al d0 aL aM;go_wp2;go_roundw
     case rel=>exact⟨rfl,(gn+j)+1,A2,c2,ad,by go_num,rfl,b4.o⟩
     case measure=>exact aH
    ·
     have aV:k - gn - mn<fn:=ad;obtain⟨b,o,f,cs,rfl,O,hx,a5,bp,Z⟩:=(bV.on (Fr.ext bq.o)).gZ pH aV;obtain⟨PA,pn,pc,cf,bn,bc,rfl,_,_⟩:=kv a5;have c0:=Z 0 _ rfl;simp only[KQ] at c0;have aX:b<wr.heap.size:=O;have d:=xy hx;obtain⟨j,bi⟩:∃j,k=gn+mn+j:=⟨k - gn - mn,ad⟩
     subst bi;have cK:gn+mn+j - gn - mn=j:=ad;rw[cK] at c0 aV d hx;rw[ca.1,ca.2.1] at d;have q:(gn:Int)+(mn:Int)+(j:Int) - (gn:Int)=(mn:Int)+(j:Int):=ad;have ao:(mn:Int)+(j:Int) - (mn:Int)=(j:Int):=ad;have q1:decide ((mn:Int)+(j:Int)<0)=false:=by first|(simp;done)|(simp;omega)
     have cB:decide ((mn:Int)+(j:Int)<(mn:Int))=false:=by first|(simp;done)|(simp;omega)
     have u:IntKind.i64.wrap (j:Int)=j:=IntWalk.i64_in _ ad;clear a5 bp Z hx O;go_wp2;refine eK (fun _=>False) [(0,3),(1,0),(2,3),(3,3),(4,0),(5,3),(6,3),(7,3),(8,3),(9,0),(10,3),(11,3),(12,0),(13,3),(14,3),(15,3),(16,2)] ?_;refine pf ?_;refine ph ?_
     iterate 2 refine pf ?_
     refine ph ?_
     iterate 4 refine pf ?_
     refine ph ?_
     iterate 2 refine pf ?_
     refine ph ?_
     iterate 3 refine pf ?_
     exact eP
  ·obtain rfl:gn+mn+fn=k:=ad;go_wp2
   go_ret2
   refine⟨A,c,by rw[cw];rfl,?_,bq.o⟩;have:=bT.o;rw[KO ad] at this;rw[cw];exact this.sl (fun b _ h=>h.elim) fun b ac av=>⟨ad,ac⟩
 ):p:=h
theorem vp(h:p:=by
 exact ss
 ):p:=h
end BQ
open BQ in
theorem sH(p:bM)(hp:ox p)(GA:Ls)(gn gc:Nat)(MA:Ls)(mn mc:Nat)(FA:Ls)(fn fc:Nat)(w:World)(h:hk w (au w) p GA gn MA mn FA fn) :
  Calls prog 79 #[.agg #[.slice GA gn gc,.slice MA mn mc,.slice FA fn fc]] w (EO w p):=by
 exact vo
theorem DF(w:World)(b i:Nat)(v:Value):Fr (fun k=>k=b) w.drew (w.setCell ⟨b,i,none⟩ v).drew:=
 have h:=(Fr.refl (fun k=>k=b) w).setCell (p:=⟨b,i,none⟩) (.inl rfl) v
 ⟨h.os,h.tape,h.output,h.size,h.block⟩
theorem tM{M:Nat→Prop}{ab:World}(h:Fr M w ab):Fr M w.drew ab.drew:=⟨h.os,h.tape,h.output,h.size,h.block⟩
theorem qi:∀(ps:List (ByteArray×Bool)) (q:ByteArray×Bool) (i k:Int),dQ (ps++[q]) i k=dQ ps i k++[if q.2 then ⟨q.1,5,k+bS ps⟩ else ⟨q.1,4,i+cc ps⟩]
 | [],(s,true),i,k=>by simp[dQ,bS]
 | [],(s,false),i,k=>by simp[dQ,cc]
 | (x,true)::ps,q,i,k=>by
  have:=(gK x true ps).2;have av:=(gK x true ps).1;rw[KV,dQ,dQ,qi ps q i (k+1),this,av];simp
  split<;>simp<;>omega
 | (x,false)::ps,q,i,k=>by
  have:=(gK x false ps).2;have av:=(gK x false ps).1;rw[KV,dQ,dQ,qi ps q (i+1) k,this,av];simp;split<;>simp<;>omega
theorem k4(ps:List (ByteArray×Bool))(q:ByteArray×Bool):cc (ps++[q])=cc ps+(if q.2 then 0 else 1)∧bS (ps++[q])=bS ps+(if q.2 then 1 else 0):=by
 obtain⟨s,b⟩:=q;cases b<;>simp[cc,bS]
theorem yj{P:Nat→Prop}{p:cJ}{cs:List Value}:(gb p).rep w P cs↔∃A n c,cs=[.string p.name,.int .i64 p.ints,.int .i64 p.av,.int .i64 p.locals,.slice A n c]∧n≤c∧Sl w P A n (p.code.map eg):=by
 unfold gb;rw[bK,cp];constructor
 ·rintro⟨y,rfl,h⟩;exact Gx
 ·rintro⟨A,n,c,rfl,hc,hs⟩;exact⟨_,rfl,bm.2 ⟨_,rfl,bm.2 ⟨_,rfl,bm.2 ⟨_,rfl,aN.2 ⟨A,n,c,[],rfl,hc,hs,aP.2 rfl⟩⟩⟩⟩⟩
def H0(w:World)(x:cJ)(e:Ending)(ab:World):Prop:=∃(A:Ls) (n c:Nat) (bS:Ls) (bL bD:Nat),
 e=.returned (.tuple #[.agg #[.string x.name,.int .i64 x.ints,.int .i64 x.av,.int .i64 x.locals,.slice A n c],.slice bS bL bD,.int .i64 0,.int .i64 0])∧(gb x).rep ab (fresh w ab) [.string x.name,.int .i64 x.ints,.int .i64 x.av,.int .i64 x.locals,.slice A n c]∧Ext w ab
namespace BR
theorem dC(h:p:=by
 clear a8 am aF;generalize hX:World.setCell _ _ _=X;have b8:=cL hX;have bL:=b4.2.2.2.2.2.1.on b8 ad;have z:aq X g 192 #[.slice GA gn gc,.slice MA mn mc,.slice FA fn fc,.slice A2 (ln+k+1) c2,.int .i64 0,.int .i64 0,.int .i64 0,.int .i64 0,.slice none 0 0,.slice none 0 0]:=hX▸b4.2.2.2.2.1.aM 3 _;have aQ:=ag b8 z;clear c0 b1 bt hX b8 z;obtain⟨c0,b1,bt⟩:=bL.two;have c3:=ae bL;clear bL;have bm:=mG (f.params.take k);have aM:=iH (f.params.take k);have dL:(f.params.take k).length≤2:=by rw[List.length_take];omega
 have d5:wrap64 (bS (f.params.take k)+1)=bS (f.params.take k)+1:=IntWalk.wrap64_in _ ad;go_upto_region 5 with(fail);generalize bC:World.setCell _ _ _=cT
 try rw[d5] at bC
 have ay:=cL bC;obtain⟨bB,cH,b2,cO,_,_,cF⟩:=b4.o;obtain⟨b8,z⟩:=aQ.o;have aj:=(aO.o:W.heap.size≤g)
 have r1:Gr (fun _=>False) W.heap.size 152 3 cT A2 (ln+(k+1)) c2 ((bo p++dQ (f.params.take (k+1)) 0 0).map bZ):=by
  exact Gi
 have gR:Ext w cT:=Fr.low (M:=fun b=>w.heap.size≤b) ((cH.mono fun _ h=>h.elim).trans ((b8.mono fun b O=>ad).trans (ay.mono fun b O=>ad))) fun _ h=>h;have gS:=(b2.on b8 ad).on ay ad;have eX:=(cO.on b8 ad).on ay ad;have rg:=z.on ay ad;have ro:aq cT o 108 #[.string f.name,.int .i64 (cc (f.params.take (k+1))),.int .i64 (bS (f.params.take (k+1))),.int .i64 0,.slice none 0 0]:=by
  rw[aZ bY.o,(k4 _ _).1,(k4 _ _).2,bs,←bC];simpa using c3.aM 2 _
 exact Gz
 ):p:=h
theorem eQ(h:p:=by
 refine tf ?_;refine b3 ?_;generalize cr:World.setCell _ _ _=Y;obtain⟨_,s,_⟩:=pM b5 bj aj cr;have bg:=ae (bq.trans s);have m:=N.ai s;have ed:=ae m;have du:=ae (b6.ai s);have cz:=bP.ai s;have an:=bU.ai s;have cG:=ae (bT.ai s);replace h0:=(s.cell bQ (fun h=>h)).trans h0
 replace bX:=(s.cell bQ (fun h=>h)).trans bX
 have c4:=s.size;replace bQ:pb<Y.heap.size:=KH bQ c4
 clear cr c0 b1 bt b5 bj aj s a0 ai af a8 am aF bP bU;obtain⟨bP,bU⟩:=aI cz an;obtain⟨a0,ai,af⟩:=m.two;obtain⟨a8,am,aF⟩:=cz.two;obtain⟨c0,b1,bt⟩:=an.two;clear m cz an;have cZ:¬Y.heap.size≤g:=ad;have es:¬Y.heap.size≤o:=ad;have en:¬Y.heap.size≤w.heap.size+1:=ad;have ev:¬Y.heap.size≤pb:=ad
 cases bs:q.2 with
 | true=>
  rw[bs] at bX;go_wp2;refine eK (fun b=>Y.heap.size≤b) [(0,3),(1,3),(2,3),(3,3),(4,0),(5,3),(6,0),(7,3),(8,3),(9,3),(10,0),(11,3),(12,0),(13,3),(14,1),(15,2),(16,3),(17,3),(18,2)] ?_
  iterate 4 refine pf ?_
  refine ow ?_;refine pf ?_;refine ow ?_
  iterate 3 refine pf ?_
  refine ow ?_;refine pf ?_;refine ow ?_;refine pf ?_;refine q0 ?_;generalize hV:World.drew (World.alloc _ _)=c9;have e1:=gF hV;have cy:aq c9 Y.heap.size 152 #[.string q.1,.int .i64 5,.int .i64 (bS (f.params.take k))]:=hV▸(Lp).drew;clear hV;refine ax rfl (fun K hK=>?_);rw[if_pos (by rfl)];refine e5 jd (.tmp 57) (.tmp 67) (by rfl) (cG.ai e1) cy (jQ ⟨q.1,5,bS (f.params.take k)⟩) (by rfl) (by rfl) (by rfl) ad ad (aD e1.size) ?_;intro A2 c2 cN bB az al b9;have cH:Ext w cN:=Fr.low (M:=fun b=>w.heap.size≤b) (((bg.trans e1).mono fun _ h=>h.elim).trans (az.mono fun b O=>by have:=(cG.lt O).1;omega)) fun _ h=>h;have aC:∀b,(Value.slice A (ln+k) c).ownBlock=some b→W.heap.size≤b∧b≠g∧b≠o:=fun b O=>⟨(cG.lt O).1,fun e=>by subst e;exact bz.1 O,fun e=>by subst e;exact bz.2 O⟩
  have b2:=(ed.ai e1).on az fun O=>by have:=(aC _ O).1;omega
  have cO:=(du.ai e1).on az fun O=>by have:=(aC _ O).1;omega
  have kg:=(bP.ai e1).on az fun O=>(aC _ O).2.1 rfl;have d9:=(bU.ai e1).on az fun O=>(aC _ O).2.2 rfl;have cF:(Value.slice A2 (ln+k+1) c2).ownBlock≠some g∧(Value.slice A2 (ln+k+1) c2).ownBlock≠some o:=by
   exact za
  have b4:=hR bB cH b2 cO kg d9 cF;clear bB az al cH aC b2 cO cF a0 ai af a8 am aF c0 b1 bt e1 cy h0 bX bQ cZ es en ev;obtain⟨a8,am,aF⟩:=kg.two;obtain⟨c0,b1,bt⟩:=d9.two;clear kg d9;refine dO hK ?_;clear hK K
  iterate 2 refine pf ?_
  exact eP
 | false=>
  rw[bs] at bX;go_wp2;refine eK (fun b=>Y.heap.size≤b) [(0,3),(1,3),(2,3),(3,3),(4,0),(5,3),(6,0),(7,3),(8,3),(9,3),(10,0),(11,3),(12,0),(13,3),(14,1),(15,2),(16,3),(17,3),(18,2)] ?_
  iterate 4 refine pf ?_
  refine ow ?_;refine pf ?_;refine ow ?_
  iterate 3 refine pf ?_
  refine ow ?_;refine pf ?_;refine ow ?_;refine pf ?_;refine q0 ?_;generalize hV:World.drew (World.alloc _ _)=c9;have e1:=gF hV;have cy:aq c9 Y.heap.size 152 #[.string q.1,.int .i64 4,.int .i64 (cc (f.params.take k))]:=hV▸(Lp).drew;clear hV;refine ax rfl (fun K hK=>?_);rw[if_pos (by rfl)];refine e5 jd (.tmp 79) (.tmp 89) (by rfl) (cG.ai e1) cy (jQ ⟨q.1,4,cc (f.params.take k)⟩) (by rfl) (by rfl) (by rfl) ad ad (aD e1.size) ?_;intro A2 c2 cN bB az al b9;have cH:Ext w cN:=Fr.low (M:=fun b=>w.heap.size≤b) (((bg.trans e1).mono fun _ h=>h.elim).trans (az.mono fun b O=>by have:=(cG.lt O).1;omega)) fun _ h=>h;have aC:∀b,(Value.slice A (ln+k) c).ownBlock=some b→W.heap.size≤b∧b≠g∧b≠o:=fun b O=>⟨(cG.lt O).1,fun e=>by subst e;exact bz.1 O,fun e=>by subst e;exact bz.2 O⟩
  have b2:=(ed.ai e1).on az fun O=>by have:=(aC _ O).1;omega
  have cO:=(du.ai e1).on az fun O=>by have:=(aC _ O).1;omega
  have kg:=(bP.ai e1).on az fun O=>(aC _ O).2.1 rfl;have d9:=(bU.ai e1).on az fun O=>(aC _ O).2.2 rfl;have cF:(Value.slice A2 (ln+k+1) c2).ownBlock≠some g∧(Value.slice A2 (ln+k+1) c2).ownBlock≠some o:=by
   exact za
  have b4:=hR bB cH b2 cO kg d9 cF;clear bB az al cH aC b2 cO cF a0 ai af a8 am aF c0 b1 bt e1 cy h0 bX bQ cZ es en ev;obtain⟨a8,am,aF⟩:=kg.two;obtain⟨c0,b1,bt⟩:=d9.two;clear kg d9;refine dO hK ?_;clear hK K
  iterate 2 refine pf ?_
  refine ax rfl (fun K hK=>?_);go_simp;refine dO hK ?_;clear hK K;refine aE ?_;clear a8 am aF;generalize hX:World.setCell _ _ _=X;have b8:=cL hX;have bL:=b4.2.2.2.2.2.1.on b8 ad;have z:aq X g 192 #[.slice GA gn gc,.slice MA mn mc,.slice FA fn fc,.slice A2 (ln+k+1) c2,.int .i64 0,.int .i64 0,.int .i64 0,.int .i64 0,.slice none 0 0,.slice none 0 0]:=hX▸b4.2.2.2.2.1.aM 3 _;have aQ:=ag b8 z;clear c0 b1 bt hX b8 z;obtain⟨c0,b1,bt⟩:=bL.two;have c3:=ae bL;clear bL;have bm:=mG (f.params.take k);have aM:=iH (f.params.take k);have dL:(f.params.take k).length≤2:=by rw[List.length_take];omega
  have d5:wrap64 (cc (f.params.take k)+1)=cc (f.params.take k)+1:=IntWalk.wrap64_in _ ad;go_upto_region 5 with(fail);generalize bC:World.setCell _ _ _=cT
  try rw[d5] at bC
  have ay:=cL bC;obtain⟨bB,cH,b2,cO,_,_,cF⟩:=b4.o;obtain⟨b8,z⟩:=aQ.o;have aj:=(aO.o:W.heap.size≤g)
  have r1:Gr (fun _=>False) W.heap.size 152 3 cT A2 (ln+(k+1)) c2 ((bo p++dQ (f.params.take (k+1)) 0 0).map bZ):=by
   exact Gi
  have gR:Ext w cT:=Fr.low (M:=fun b=>w.heap.size≤b) ((cH.mono fun _ h=>h.elim).trans ((b8.mono fun b O=>ad).trans (ay.mono fun b O=>ad))) fun _ h=>h;have gS:=(b2.on b8 ad).on ay ad;have eX:=(cO.on b8 ad).on ay ad;have rg:=z.on ay ad;have ro:aq cT o 108 #[.string f.name,.int .i64 (cc (f.params.take (k+1))),.int .i64 (bS (f.params.take (k+1))),.int .i64 0,.slice none 0 0]:=by
   rw[aZ bY.o,(k4 _ _).1,(k4 _ _).2,bs,←bC];simpa using c3.aM 1 _
  exact Gz
 ):p:=h
theorem vy(h:p:=by
 refine(dV A (ln+k) c _ q.1 V.drew (ch.on (Fr.ext bj.drew)) ad).mono ?_;rintro e aS ⟨rfl,ar⟩;rw[a6];simp only[iU];refine dO hK ?_;clear hK K
 iterate 3 refine tf ?_
 have cE:=aR.ai (Fr.aF ar);have aN:=bj.trans (Fr.aF ar);clear aR bj ar;exact key wr.heap.size aS ⟨aN,cE,KG _⟩
 ):p:=h
theorem su(h:p:=by
 have er:((bo p).map bZ).length=ln:=hl.1;have dt:ln≤100:=by rw[←hl.1,KK,kQ];omega
 have bk:f.params.length=pn:=by rw[←cA.1,KK]
 have gt:pn≤2:=by have:=(hp.funcs f J).jy;omega
 obtain⟨ck,dl,cR,bV,ca,cl,dr⟩:=C2 hp J hm cj hl cA bl;have aB:=ag er bk;clear h a2 hm cj hl cA bl hp J dv lm lf er bk;go_enter func81,ntmps81;go_upto_region 1 with(fail);generalize ba:World.alloc _ _=W;have aw:=kq ba;have bF:=jo ba;have ce:=g5 ba;have cD:=jq ba;have cY:=aw.size;obtain⟨bq,N,b6⟩:=eh aw ce cD;have y:=kz ((ca.on (Fr.ext aw)).on (Fr.ext (Fr.refl _ W).drew));obtain⟨a0,ai,af⟩:=bF.two;have eD:¬W.heap.size≤w.heap.size:=by have:=cD.lt;omega
 have cU:w.heap.size+2<W.heap.size:=cD.lt;clear ba aw bF ce cD;refine eK (fun b=>W.heap.size≤b) [(0,0),(2,3),(1,1),(3,1),(4,3),(5,2),(6,3)] ?_;refine ow ?_;refine pf ?_;refine q0 ?_;generalize hV:World.drew (World.alloc _ _)=cC;have e1:=gF hV;have c8:Gr (fun _=>False) W.heap.size 152 3 cC (some ⟨W.heap.size,0,none⟩) 0 0 []:=hV▸(Gr.lit (w:=W) (n:=0) (l:=[]) rfl (by rfl) ad (by simp only[D.aQ])).ai Lo.drew;have dZ:=kz (ca.on (Fr.ext (bq.trans e1)));clear hV y;refine aJ rfl (fun K hK=>?_);rw[if_pos (by rfl)];refine jl jd (.tmp 16) (.tmp 17) (by rfl) c8 (kU (bo p)) aB.1 dZ (fun h=>by subst h;exact Sl.none_ ca.o) (by rfl) (by rfl) ad ad e1.size ?_;intro bu cv aT cd f1 o1 c1;refine dz hK (f1.mono fun b O=>ad) ?_;clear hK K;have e2:Ext W aT:=Fr.low (M:=fun b=>W.heap.size≤b) ((e1.mono fun _ h=>h.elim).trans (f1.mono fun b O=>ad)) fun _ h=>h;have dq:=fun b O=>(cd.lt (g:=b) O)
 have eI:W.heap.size≤aT.heap.size:=e2.size;refine pf ?_;refine ax rfl (fun K hK=>?_);go_simp;generalize hV:World.alloc _ _=eH;have e3:=aU hV;have cz:=aG hV;refine dO hK ?_;clear hK K;refine pf ?_;refine aE ?_;have a9:=ae (bq.trans (e2.trans e3));have bd:=ae (cd.ai e3);have da:=N.ai (e2.trans e3);have dF:=ae da;have bb:=ae (b6.ai (e2.trans e3));have bP:=ae cz;have bJ:w.heap.size+3≤aT.heap.size:=by have:=e2.size;have:=b6.lt;omega
 have bR:∀b,(Value.slice bu ln cv).ownBlock=some b→W.heap.size≤b∧b<aT.heap.size:=fun b O=>dq b O;have aA:=ae bR;clear hV e1 c8 dZ cd f1 o1 c1 e2 e3 cz dq eD a0 ai af bq N b6 bR;obtain⟨a0,ai,af⟩:=da.two;clear da;generalize eE:aT.heap.size=g at *;go_upto_region 3 with(fail);generalize hV:World.alloc _ _=V;have L:=aU hV;have an:=aG hV;have cW:g<eH.heap.size:=bP.lt;generalize d4:eH.heap.size=o at *;have aL:=ae (show Gr (fun _=>False) W.heap.size 152 3 V bu ln cv ((bo p).map bZ)∧(Value.slice bu ln cv).ownBlock≠some g∧(Value.slice bu ln cv).ownBlock≠some o∧Ext w V∧aq V (w.heap.size+1) 143 #[.string f.name,.slice PA pn pc,.slice cf bn bc]∧
   aq V (w.heap.size+2) 108 #[.string ⟨#[]⟩,.int .i64 0,.int .i64 0,.int .i64 0,.slice none 0 0]∧aq V g 192 #[.slice GA gn gc,.slice MA mn mc,.slice FA fn fc,.slice bu ln cv,.int .i64 0,.int .i64 0,.int .i64 0,.int .i64 0,.slice none 0 0,.slice none 0 0]∧aq V o 108 #[.string f.name,.int .i64 0,.int .i64 0,.int .i64 0,.slice none 0 0] from
  ⟨bd.ai L,fun O=>by have:=aA.o _ O;omega,fun O=>by have:=aA.o _ O;omega,a9.trans L,dF.ai L,bb.ai L,bP.ai L,an⟩)
 have em:W.heap.size≤g:=ad;clear hV L an bd a9 dF bb bP a0 ai af aA eE d4;have aO:=ae em;obtain⟨cn,bO,cP,dx,e4,bE,ew,fe⟩:=aL.o;have dM:=ae (show Gr (fun _=>False) W.heap.size 152 3 V bu (ln+0) cv ((bo p++dQ (f.params.take 0) 0 0).map bZ)∧(Value.slice bu (ln+0) cv).ownBlock≠some g∧(Value.slice bu (ln+0) cv).ownBlock≠some o∧Ext w V∧aq V (w.heap.size+1) 143 #[.string f.name,.slice PA pn pc,.slice cf bn bc]∧aq V (w.heap.size+2) 108 #[.string ⟨#[]⟩,.int .i64 0,.int .i64 0,.int .i64 0,.slice none 0 0]∧aq V g 192 #[.slice GA gn gc,.slice MA mn mc,.slice FA fn fc,.slice bu (ln+0) cv,.int .i64 0,.int .i64 0,.int .i64 0,.int .i64 0,.slice none 0 0,.slice none 0 0]∧aq V o 108 #[.string f.name,.int .i64 (cc (f.params.take 0)),.int .i64 (bS (f.params.take 0)),.int .i64 0,.slice none 0 0] from ⟨by simpa[dQ] using cn,bO,cP,dx,e4,bE,ew,by simpa[cc,bS] using fe⟩);clear cn bO cP dx e4 bE ew fe;go_wp2
 go_loopw [12] (fun cu wr=>∃(k:Nat) (A:Ls) (c:Nat),k≤pn∧cu=.int .i64 k∧Gr (fun _=>False) W.heap.size 152 3 wr A (ln+k) c ((bo p++dQ (f.params.take k) 0 0).map bZ)∧(Value.slice A (ln+k) c).ownBlock≠some g∧(Value.slice A (ln+k) c).ownBlock≠some o∧Ext w wr∧aq wr (w.heap.size+1) 143 #[.string f.name,.slice PA pn pc,.slice cf bn bc]∧aq wr (w.heap.size+2) 108 #[.string ⟨#[]⟩,.int .i64 0,.int .i64 0,.int .i64 0,.slice none 0 0]∧aq wr g 192 #[.slice GA gn gc,.slice MA mn mc,.slice FA fn fc,.slice A (ln+k) c,.int .i64 0,.int .i64 0,.int .i64 0,.int .i64 0,.slice none 0 0,.slice none 0 0]∧aq wr o 108 #[.string f.name,.int .i64 (cc (f.params.take k)),.int .i64 (bS (f.params.take k)),.int .i64 0,.slice none 0 0]) (fun cu _=>pn - (intOf cu).toNat)
 case atStart=>exact⟨0,bu,cv,ad,rfl,dM.o⟩
 case round=>
  obtain⟨k,A,c,ap,rfl,hG,di,dj,aw,ce,cD,cz,an⟩:=hrel;clear aL dM;have bT:=ae hG;have bz:=ag di dj;obtain⟨bq,N,b6,bP,bU⟩:=CR aw ce cD cz an;obtain⟨a0,ai,af⟩:=ce.two;obtain⟨a8,am,aF⟩:=cz.two;have aP:=aw.size;by_cases ak:k<pn
  ·obtain⟨pb,fu,q,cs,rfl,eN,bK,bv,bp,Z⟩:=(cl.on (Fr.ext aw)).gZ ru ak;obtain rfl:=nP.1 bv;have h0:=Z 0 _ rfl;have bX:=Z 1 _ rfl;simp only[KQ] at h0;have bQ:pb<wr.heap.size:=eN;have bY:=ae bK;have a6:dB (bo p++dQ (f.params.take k) 0 0) q.1=none:=by
    refine jR fun j x bi hx=>?_;have bD:=(ck.funcs f dl.o).fresh;have dD:x.name∈(bo p++dQ (f.params.take k) 0 0).map (·.name):=Lf.2 ⟨x,KJ bi,rfl⟩;rw[KN,fO,fL] at dD;have dE:f.params=f.params.take k++q::f.params.drop (k+1):=by
     have:=List.take_append_drop k f.params;rw[←this];congr 1
     ·rw[this]
     ·rw[this,List.drop_eq_getElem?_toList_append,bK];rfl
    rw[dE,KN,KM,←List.append_assoc,List.nodup_append] at bD;exact bD.2.2 _ dD q.1 (by simp) hx
   have y:=bT.sl (Q:=au wr) (fun b _ h=>h.elim) (fun b h _=>h);have ch:=ae y;clear bv bp Z eN bK hG di dj aw ce cD cz an y;go_upto_region 6 with(fail);refine q4 (fun _=>False) [10,15] (.free 0 (.free 1 (.free 2 (.held 3 (.free 4 (.held 5 (.free 6 (.free 7 (.free 8 (.held 9 (.pick [10,14] (fun i=>bif i == 10 then .free 11 (.free 12 (.free 13 (.pick [14] (fun _=>.pick [15] (fun _=>.free 16 (.stop)))))) else .pick [10] (fun _=>.free 11 (.free 12 (.free 13 (.pick [15] (fun _=>.free 16 (.stop)))))))))))))))))) ?_
   iterate 3 refine tf ?_
   refine th ?_;refine tf ?_;refine th ?_
   iterate 3 refine tf ?_
   refine th ?_;refine la (P:=?JD) (ops:=?JM) (Q:=?JN) (R:=?JO) (tails:=?JP) (rest:=.pick [15] (fun _=>.free 16 (.stop))) (aa:=?JE) (C:=fun db V=>Ext wr V∧aq V db 152 #[.string ⟨#[]⟩,.int .i64 0,.int .i64 0]∧wr.heap.size≤db) (fun key=>?Ix) ?Ir
   case Ix=>
    refine aY ?_ ?_
    ·
     refine bN rfl (fun K hK=>?_) rfl;go_simp;refine(dV A (ln+k) c _ q.1 wr.drew (ch.on (Fr.ext Lo.drew)) ad).mono ?_;rintro e aS ⟨rfl,ar⟩;rw[a6];simp only[iU];refine dO hK ?_;clear hK K
     iterate 3 refine tf ?_
     refine ao ?_;refine dP ?_;generalize hV:World.alloc _ _=V;have aR:=aG hV;have bj:Ext wr V:=hV▸(Fr.aF ar).alloc _;exact Da
    ·
     exact vx
   case Ir=>
    rintro db V ⟨bj,b5,aj⟩;obtain⟨c0,b1,bt⟩:=b5.two;exact fj
  ·obtain rfl:pn=k:=ad;rw[KO (by rw[aB.2];exact KG _)] at hG an;have cp:=bU.o;rw[KO (by rw[aB.2];exact KG _)] at cp;clear bT bU an;obtain⟨bT,bU⟩:=aI hG cp;obtain⟨c0,b1,bt⟩:=cp.two;clear hG di dj aw ce cD cz cp;go_upto_region 15 with(fail);generalize hX:World.setCell _ _ _=X;have b8:=cL hX;have z:aq X g 192 #[.slice GA gn gc,.slice MA mn mc,.slice FA fn fc,.slice A (ln+pn) c,.int .i64 (cc f.params),.int .i64 0,.int .i64 0,.int .i64 0,.slice none 0 0,.slice none 0 0]:=hX▸bP.aM 4 _;have d1:w.heap.size≤g:=by have:=(aO.o:W.heap.size≤g);omega
   have br:Ext w X:=Fr.low (M:=fun b=>w.heap.size≤b) ((bq.mono fun _ h=>h.elim).trans (b8.mono fun b O=>ad)) fun _ h=>h;have co:=bT.dj (ab:=X) b8.size fun b ak hp=>b8.block b ak fun he=>by
    subst he;rcases hp with hp|hp
    ·exact hp.elim
    ·exact bz.1 hp
   have aX:∀b,au w b→off (Ms g (.slice none 0 0) (.slice none 0 0)) X b:=fun b O=>⟨KH O br.size,fun hm=>by
    rcases hm with hm|hm|hm
    ·have:b<w.heap.size:=O;omega
    ·cases hm
    ·cases hm⟩
   have dW:=(cR.ak (ab:=X) fun b O=>br.block b O fun h=>h).mono aX;have cg:=(bV.ak (ab:=X) fun b O=>br.block b O fun h=>h).mono aX;have dT:=(dr.ak (ab:=X) fun b O=>br.block b O fun h=>h).mono aX;have d0:Sl X (off (Ms g (.slice none 0 0) (.slice none 0 0)) X) A (ln+pn) ((bo p++dQ f.params 0 0).map bZ):=by
    obtain⟨d3,xs,ac,av⟩:=co;exact Sl.qe ac (tI av) d3 fun b bw _ ak=>⟨ak,fun hm=>by
     rcases hm with hm|hm|hm
     ·subst hm;exact bz.1 (by rw[bw];rfl)
     ·cases hm
     ·cases hm⟩
   have ek:cK X g (o+1) p.af p.funcs (bo p++dQ f.params 0 0) A (ln+pn) c (cc f.params) 0 [] [] none 0 none 0:=
    ⟨⟨GA,gn,gc,MA,mn,mc,FA,fn,fc,z,ad,ad,dW,cg⟩,⟨ad,by have:=b8.size;have:=bt;omega⟩,⟨ad,d0⟩,ld.nil _ _ _ _ _ _⟩
   have bI:=N.on b8 (by have:=(aO.o:W.heap.size≤g);omega);obtain⟨ey,ec,bf,eF⟩:=iS ek dT br bI;have eb:=ae (b6.on b8 (by have:=(aO.o:W.heap.size≤g);omega));have ei:=ae (bU.on b8 ad);clear a0 ai af a8 am aF c0 b1 bt hX b8 z br co aX dW cg dT d0 ek;obtain⟨a0,ai,af⟩:=bI.two;clear bI;have eZ:=mG f.params;have e0:=iH f.params;have cM:=ae (show ∀b,Ms g (.slice none 0 0) (.slice none 0 0) b→w.heap.size≤b from fun b hm=>by
    rcases hm with hm|hm|hm
    ·omega
    ·cases hm
    ·cases hm)
   have dh:Sc (bx (gi p)) (hW p f) (bo p++dQ f.params 0 0) (fo p++ct f.params) (bh p++f.params.map (·.1)) (cc f.params) (bS f.params):=uB ck.o dl.o;have ex:(bx (gi p)).af=p.af:=by rw[ob]
   have I:f.body.num≤64:=KX (jj (fun f:aK=>f.body.num) dl.o) ck.jy;have dk:=dR f.body 4 _ _ _ (cc f.params) [] (ck.funcs f dl.o).body dh;have cw:(bo p++dQ f.params 0 0).length≤200:=by
    have ac:=aB.1;rw[KK] at ac;have av:=congrArg List.length (fL f.params 0 0);rw[KK,KK] at av;have aV:=aB.2;rw[KI,ac,av];omega
   obtain⟨a5,dK,ej,d2⟩:=iS dh dk ex cw;clear dh dk ex cw;go_wp2_with(fail);have bk:=aB.2;have cw:=d2.o;refine(dc (bx (gi p)) (bS f.params) p.funcs f.body (hW p f) 4 _ _ _ (cc f.params) 0 [] [] g (o+1) A (ln+pn) c none 0 none 0 cf bn bc X (ck.funcs f dl.o).body a5.o (DD ck.o dl.o) (fun h ah=>by have:=(ck.funcs h ah).jy;omega) (by rw[ej.o];exact ey.o) ec.o (by simp;omega) rfl ad ad ad).mono ?_;rintro e c6 ⟨rfl,cJ,bG,cS,cX,a4,bO,a3,ci⟩;have dk:=dK.o;rw[ej.o] at a3;clear bk cw dK;generalize bK:dI f.body (bo p++dQ f.params 0 0) (cc f.params) []=r at *;obtain⟨r1,gM⟩:=r;obtain⟨⟨gJ,cI,eq,_⟩,be,de⟩:=dk;simp only[Lh,KY] at bO a3 ci cI be de;have cb:r1.length≤128:=by rw[cI];omega
   have dm:∀b,b≠g→¬Ms g (.slice none 0 0) (.slice none 0 0) b:=fun b O hm=>by
    rcases hm with hm|hm|hm
    ·exact O hm
    ·cases hm
    ·cases hm
   obtain⟨dp,d7⟩:=eb.cQ (dm _ (by have:=(aO.o:W.heap.size≤g);omega)) ci;obtain⟨cV,d8⟩:=ei.cQ (dm _ ad) ci;obtain⟨bW,eS⟩:=aI a3 ci;obtain⟨ff,eY,eV,fi,e9,e7,fb,eT,eO,f2,_⟩:=a3.blk;have c7:=bH dp d7 cV d8;have bY:=bH bK bO be de;clear a0 ai af a3 ci dp cV cI eq d7 d8 bK bO;obtain⟨a8,am,aF⟩:=f2.two;clear f2;clear be de dm;go_wp2_with(fail);refine(g1 bW.o nj (f.body.num:Int) (ju (is:=[]) (ps:=[]) (Sl.bO _) (Sl.bO _) (KG _) (KG _)) ad (aD bY.2.1)).mono ?_;rintro e cQ ⟨rfl,dH,dn,dS,dX,cx,dd⟩;have dY:=ae cx;have cB:Mv g (.slice cJ r1.length bG) (.slice cS a4.length cX) c6 (.slice dH (r1++[nj]).length dn) (.slice dS (a4++[(f.body.num:Int)]).length dX) cQ:=by rw[KI,KI];exact dd
   have eu:=ae (eS.trans cB);obtain⟨dp,d7⟩:=c7.1.cQ c7.2.1 cB;obtain⟨cV,d8⟩:=c7.2.2.1.cQ c7.2.2.2 cB;obtain⟨eA,eB⟩:=aI dp cV;obtain⟨fd,eW,eU,fh,e8,e6,fa,eR,eM,cm,_⟩:=cx.blk;have eg:=ae cm;clear cx dd cB a8 am aF;obtain⟨a8,am,aF⟩:=cm.two;obtain⟨c0,b1,bt⟩:=cV.two;have eo:¬g=o:=ad;clear cm cV dp;go_wp2;refine eK (fun b=>b=o) [(0,3),(1,3),(2,3),(3,0),(4,3),(5,3),(6,3),(7,0),(8,3),(9,1),(10,3),(11,2)] ?_
   iterate 3 refine pf ?_
   refine ow ?_
   iterate 3 refine pf ?_
   refine ow ?_;refine pf ?_;refine aJ rfl (fun K hK=>?_);go_simp;refine dz hK (DF cQ o 3 _) ?_;clear hK K;refine pf ?_;refine ax rfl (fun K hK=>?_);go_simp;refine dO hK ?_;clear hK K;refine aE ?_;generalize hX:World.setCell _ _ _=gC;have T:=EW hX;have df:aq gC o 108 #[.string f.name,.int .i64 (cc f.params),.int .i64 (bS f.params),.int .i64 gM,.slice dH (r1.length+1) dn]:=hX▸(eB.aM 3 _).aM 4 _;have dU:=eg.on T eo;have dN:=eA.on T (by have:=(aO.o:W.heap.size≤g);omega);obtain⟨dw,eG,dG⟩:=eh T df dN;clear hX T a8 am aF c0 b1 bt dN;obtain⟨a8,am,aF⟩:=dU.two;obtain⟨c0,b1,bt⟩:=df.two;have ee:¬g=w.heap.size+2:=by have:=(aO.o:W.heap.size≤g);omega
   have ef:¬o=w.heap.size+2:=by have:=(aO.o:W.heap.size≤g);omega
   clear dU df;obtain⟨d6,dy,dA⟩:=dG.two;go_wp2;refine eK (fun b=>b=w.heap.size+2) [(0,0),(1,3),(2,3),(3,3),(4,0),(5,3),(6,3),(7,3),(8,0),(9,3),(10,3),(11,3),(12,0),(13,1),(14,3),(15,3),(16,3)] ?_;refine Fv ?_
   iterate 3 refine pf ?_
   refine Fv ?_
   iterate 3 refine pf ?_
   refine Fv ?_
   iterate 3 refine pf ?_
   refine Fv ?_;refine aJ rfl (fun K hK=>?_);go_simp;generalize hX:World.setCell _ _ _=ea;obtain⟨cm,_,b7⟩:=bA (w:=w) [.string f.name,.int .i64 (cc f.params),.int .i64 (bS f.params),.int .i64 gM,.slice dH (r1.length+1) dn] (by rfl) dG.o (Fr.low (M:=fun b=>w.heap.size≤b) ((bf.mono fun _ h=>h.elim).trans ((eu.fr.mono fun b hm=>cM.o b hm).trans (dw.mono fun b O=>by have:=(aO.o:W.heap.size≤g);omega))) fun _ h=>h) (Nat.le_add_right _ _) hX;refine dz hK (tM (tM b7)) ?_;clear hK K
   iterate 3 refine pf ?_
   refine aE ?_;obtain⟨a7,eJ,eL⟩:=cm.two;have ez:=ag b7 cm;clear a8 am aF c0 b1 bt d6 dy dA hX b7 cm;go_wp2;refine Ln (v:=.tuple #[.agg #[.string f.name,.int .i64 (cc f.params),.int .i64 (bS f.params),.int .i64 gM,.slice dH (r1.length+1) dn],.slice dS (a4.length+1) dX,.int .i64 0,.int .i64 0]) (by simp[results,Tryz.results81,go_sem,a7]) rfl ?_;obtain⟨b7,cm⟩:=ez.o;have aj:=(aO.o:W.heap.size≤g)
   have ep:et p f=⟨f.name,cc f.params,bS f.params,gM,r1++[nj]⟩:=by
    unfold et;simp only[bY.1]
   have cq:Ext w ea:=Fr.low (M:=fun b=>w.heap.size≤b) ((bf.mono fun _ h=>h.elim).trans ((eu.fr.mono fun b hm=>cM.o b hm).trans ((dw.mono fun b O=>ad).trans (b7.mono fun b O=>ad)))) fun _ h=>h;have b0:=dY.rows.one;have a1:=b0.cap.1;have eC:Gr _ _ _ _ ea.drew.drew _ _ _ _:=(((b0.dj (ab:=gC) dw.size fun b ak hp=>dw.block b ak fun he=>by
    rcases hp with hp|hp
    ·have:=hp.1;omega
    ·have:=(b0.lt hp).1;omega).dj (ab:=ea) b7.size fun b ak hp=>b7.block b ak fun he=>by
    rcases hp with hp|hp
    ·have:=hp.1;omega
    ·have:=(b0.lt hp).1;omega).ai (Fr.refl _ ea).drew).ai (Fr.refl _ ea.drew).drew
   have el:=eC.sl (Q:=fresh w ea.drew.drew) (fun b ac av=>⟨by have:=av.1;omega,ac⟩) (fun b ac av=>⟨ad,ac⟩);rw[KI] at el a1;refine⟨dH,r1.length+1,dn,dS,a4.length+1,dX,by rw[ep],?_,cq.drew.drew⟩;rw[ep];exact yj.2 ⟨dH,r1.length+1,dn,rfl,a1,el⟩
 ):p:=h
end BR
open BR in
theorem sM(dc:∀U nk F b,lC U nk F b)(p:bM)(hp:ox p)(f:aK)(J:f∈p.funcs)(GA:Ls)(gn gc:Nat)(MA:Ls)(mn mc:Nat)(FA:Ls)(fn fc:Nat)(S:Ls)(ln lc:Nat)(PA:Ls)(pn pc:Nat)(cf:Ls)(bn bc:Nat)(w:World)
  (h:hk w (au w) p GA gn MA mn FA fn) (hl:Sl w (au w) S ln ((bo p).map bZ)) (cA:Sl w (au w) PA pn (f.params.map ds)) (bl:Sl w (au w) cf bn (c5 f.body)) :
  Calls prog 81 #[.agg #[.slice GA gn gc,.slice MA mn mc,.slice FA fn fc],.slice S ln lc,.agg #[.string f.name,.slice PA pn pc,.slice cf bn bc]] w (H0 w (et p f)):=by
 have a2:=h.g;have hm:=h.m;have cj:=h.f;have dv:p.globals.length=gn:=by rw[←a2.1,KK]
 have lm:p.af.length=mn:=by rw[←hm.1,KK]
 have lf:p.funcs.length=fn:=by rw[←cj.1,KK]
 exact ss
end Go.Proofs.YtnhhdaggkiomoaaGreat
