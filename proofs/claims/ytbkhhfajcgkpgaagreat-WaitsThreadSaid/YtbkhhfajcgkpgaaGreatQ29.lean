/- Part 29 of the proof. No condition of its own. -/
import Derived.Test.YtbkhhfajcgkpgaaGreatQ23
namespace Go.Proofs.YtbkhhfajcgkpgaaGreat
open Go.RowKit Go.Proofs.Tryz
set_option maxRecDepth 1000000
set_option maxHeartbeats 25600000
set_option linter.unusedVariables false
variable{xs:List Value}{k z:Nat}{P:Nat→Prop}
theorem FP{w X V:World}{g:Nat}{t:TypeId}{v0 v1 c0 c1:Value}(aL:af V g t #[c0,c1])(aF:Ext w V)(aJ:w.heap.size≤g)(hX:(V.setCell ⟨g,0,none⟩ v0).setCell ⟨g,1,none⟩ v1=X):
  af X g t #[v0,v1]∧Ext w X∧Fr (fun b=>b=g) V X:=by
 subst hX;exact⟨(aL.aC 0 v0).aC 1 v1,(aF.setCell (.inr aJ) _).setCell (.inr aJ) _,((Fr.refl (fun b=>b=g) V).setCell (.inl rfl) _).setCell (.inl rfl) _⟩
theorem r7{u:av}(hu:cU u){p:c6}(hp:p∈u.procs){c:ay}(hc:c∈p.code)(a8:c.op=2∨c.op=3):
  ∃q,0≤c.target∧u.procs[c.target.toNat]?=some q∧(c.places.length:Int)=q.aw∧q.aw≤100∧∀pl∈c.places,pl.param=true→0≤pl.index∧pl.index<p.aw:=by
 obtain⟨s,hs,hl,aK⟩:=(hu.procs p hp).code;rw[hs] at hc;rcases JZ.1 hc with hc|hc
 ·rcases aK c hc with h|h|h|h|h|h
  ·omega
  ·obtain⟨_,_,sg,h0,k,al,bb,_,aY⟩:=h;simp only[bh,List.getElem?_map] at k
   cases bm:u.procs[c.target.toNat]? with
   | none=>rw[bm] at k;cases k
   | some q=>
    rw[bm] at k;injection k with k;subst k;refine⟨q,h0,rfl,bb,(hu.procs q (JT bm)).aw.2,fun pl hm O=>?_⟩;have:=aY pl hm;unfold cJ at this;simp_all
  ·omega
  ·omega
  ·omega
  ·omega
 ·simp only[Kh] at hc;subst hc;simp[mX] at a8
namespace BN
theorem jD{p:Prop}(h:p:=by
 clear e0 a5 aZ;generalize bE:World.setCell aO _ _=bT;have b0:Fr (fun b=>b=W.heap.size) aO bT:=bE▸(Fr.refl (fun b=>b=W.heap.size) aO).setCell (.inl rfl) _;have t:af bT W.heap.size 177 #[.int .i64 c.target,.slice aa (j+1) ax]:=bE▸bW.2.1.aC 1 _;clear bE;have cz:=bW.1.cO b0 (fun b O _=>⟨fun h=>h,ab⟩);have L:=aQ t cz (bW.2.2.trans b0);clear t cz b0;go_wp2_with(fail);go_roundw
 case rel=>
  refine⟨j+1,aa,ax,ab,by go_num,L.2.2,L.1,?_⟩;have:=L.2.1;rw[bK.o j pl U.o,←cc.o];exact this
 case measure=>exact aB
 ):p:=h
end BN
open BN in
theorem o5(u:av)(hu:cU u)(GA:Kr)(gn gc:Nat)(MA:Kr)(mn mc:Nat)(PA:Kr)(pn pc:Nat)(x:hk)(cl:Kr)(ck ct:Nat)(p:c6)(h0:0≤x.proc)(hp:u.procs[x.proc.toNat]?=some p)(aW:(x.aw.length:Int)=p.aw)
  (k:Nat) (aj:k<p.code.length) (w:World) (hU:g5 w (au w) u GA gn MA mn PA pn) (hX:Sl w (au w) cl ck (x.aw.map .i)) :
  Calls prog 98 #[.agg #[.slice GA gn gc,.slice MA mn mc,.slice PA pn pc,.int .i64 u.main],.agg #[.int .i64 x.proc,.slice cl ck ct],.int .i64 k] w
   fun e ac=>∃(ok:Bool) (y:hk) (cC:Kr) (cI cD:Nat),e=.returned (.tuple #[.agg #[.int .i64 y.proc,.slice cC cI cD],.bool ok])∧(ok=true→lL u y)∧cI≤cD∧Sl ac (fresh w ac) cC cI (y.aw.map .i)∧Ext w ac:=by
 obtain⟨ea,da⟩:=x;simp only at h0 hp aW hX ⊢;obtain⟨c9,rfl⟩:=JV h0;rw[Kb] at hp;have ej:u.procs.length=pn:=by rw[←hU.p.1,JU]
 have yA:c9<pn:=by have:=(List.getElem?_eq_some_iff.1 hp).1;omega
 have gH:pn≤16:=by have:=hu.FU;omega
 have a3:p.code.length≤201:=by
  obtain⟨s,hs,hl,_⟩:=(hu.procs p (JT hp)).code;rw[hs];simp;omega
 obtain⟨cm,bh,dl,c7,b4,X,bq⟩:=B8 hu hu hU hX hp aW aj;clear hU hX hp aW h0 ej hu;go_enter func98,ntmps98;go_upto_region 1 with(fail);generalize bg:World.alloc _ _=W;have aF:Ext w W:=bg▸((Kn.alloc _).alloc _).alloc _;have aL:af W w.heap.size 26 #[.slice GA gn gc,.slice MA mn mc,.slice PA pn pc,.int .i64 u.main]:=bg▸((Ko).alloc _).alloc _;have bH:af W (w.heap.size+1) 177 #[.int .i64 c9,.slice cl ck ct]:=bg▸(af.ct _ _ _ (by simp)).alloc _;have bP:af W (w.heap.size+2) 177 #[.int .i64 0,.slice none 0 0]:=bg▸af.ct _ _ _ (by simp);obtain⟨a2,bs,bY,bz⟩:=iF aF aL bH bP;obtain⟨a0,ap,ak⟩:=aL.two;obtain⟨a6,am,aI⟩:=bH.two;obtain⟨d0,ag,aR⟩:=bP.two;clear bg aF aL bH bP;obtain⟨bQ,op,dI,bI,bZ,bO,rfl,bL,bV,p0,aT,ew,p3,p4,Z,T⟩:=(dl.on a2.o).proc yA;obtain rfl:dI=p:=by rw[b4.o] at bV;injection bV with bV;exact bV.symm
 have f2:dI.code.length=bZ:=by rw[←T.1,JU]
 have cn:k<bZ:=ab;have I:(0:Int)≤(k:Int):=ab;have cd:(k:Int)<(bZ:Int):=ab;have a9:(0:Int)≤(c9:Int):=ab;have dE:(c9:Int)<(pn:Int):=ab;obtain⟨eL,bG,c,cells,eo,en,es,EA,em,ec,QA,qm,qc,IA,i,ic,KA,m,cV,rfl,cu,hc,cL,aV⟩:=T.CP cn;obtain⟨r,aE⟩:=aM cL hc;have aY:=cL.cells;subst aY;have c0:=aV 0 _ rfl;have c1:=aV 1 _ rfl;have al:=aV 11 _ rfl;have bp:=ad T;clear aV T hc bV p0 aT ew p3 f2 cL;simp only[J0] at c0;by_cases a8:c.op=2∨c.op=3
 case neg=>
  have eN:(c.op != 2)=true:=by simp;omega
  have o3:(c.op != 3)=true:=by simp;omega
  clear a8;go_wp2_with(fail);generalize b6:World.setCell _ _ _=Y;obtain⟨bt,bA,bk⟩:=FP bz.o a2.o ab b6;obtain⟨bv,bd,be⟩:=bt.two;refine Km (v:=.tuple #[.agg #[.int .i64 0,.slice none 0 0],.bool false]) (by simp[results,Tryz.results98,go_sem,bv]) rfl ?_;exact⟨false,⟨0,[]⟩,none,0,0,rfl,(fun h=>by cases h),JQ _,Sl.bG _,bA⟩
 case pos=>
  obtain⟨q,H,bm,o,e5,e4⟩:=r7 cm.o (JT b4.o) (JT aE.o) a8;have hm:c.places.length=m:=by have:=r.places.1;simpa using this
  have ce:=bw H bm o e4;have cf:m≤100:=ab;have dv:=ad hm;clear H bm o e4 hm e5;rcases a8 with a8|a8
  all_goals
   simp only[a8] at c0;clear a8;go_wp2_with(fail);generalize hV:World.alloc _ _=V;have bf:Ext W V:=hV▸Kn.alloc _;have gi:af V W.heap.size 177 #[.int .i64 c.target,.slice none 0 0]:=hV▸af.ct _ _ _ (by simp);have cM:W.heap.size<V.heap.size:=by rw[←hV];simp
   clear hV;obtain⟨b1,P⟩:=aM bf gi;clear a0 ap ak a6 am aI d0 ag aR bf gi;obtain⟨b7,ah⟩:∃b7:Nat→List D,b7=fun j=>(((c.places.take j).map fun pl=>if pl.param then da.getD pl.index.toNat 0 else pl.index).map .i):=⟨_,rfl⟩
   have a7:=ad ah;have bu:b7 0=[]:=by rw[ah];rfl
   have N:∀j pl,c.places[j]?=some pl→b7 (j+1)=b7 j++[.i (if pl.param then da.getD pl.index.toNat 0 else pl.index)]:=fun j pl h=>by rw[ah];simp only;rw[List.take_add_one,h];simp
   obtain⟨a1,bK⟩:=aM bu N;clear ah bu N
   try rw[show w.heap.size+1+1=w.heap.size+2 from rfl]
   generalize decide ((k:Int)<0)=ai;generalize decide (bZ≤k)=ba;generalize (ai || ba)=bB;go_loopw [10] (fun cg wr=>∃(j:Nat) (cC:Kr) (cD:Nat),j≤m∧cg=.int .i64 j∧Fr (fun b=>b=W.heap.size) V wr∧af wr W.heap.size 177 #[.int .i64 c.target,.slice cC j cD]∧Gr (fun _=>False) V.heap.size 3 1 wr cC j cD (b7 j)) (fun i _=>m - (intOf i).toNat)
   case atStart=>exact⟨0,none,0,Kc _,rfl,Kn,P.o,by rw[a1.o];exact Gr.nil _ _ _ _ _⟩
   case round=>
    obtain⟨j,cC,cD,bc,rfl,aD,bl,aJ⟩:=hrel;have l:Ext W wr:=Fr.low (M:=fun b=>b=W.heap.size) ((Fr.mono b1.o fun _ h=>h.elim).trans aD) fun k aj=>ab;have bn:=(l.uu.1 eL (bG+k*12+11) cu).trans al;obtain⟨P,z,bX,bS⟩:=iF bl l aD aJ;have bN:W.heap.size<wr.heap.size:=bl.lt;have bo:eL<wr.heap.size:=JR cu l.size;obtain⟨e0,a5,aZ⟩:=bl.two;obtain⟨a6,am,aI⟩:=(bY.ak l).two;by_cases aw:j<m
    ·obtain⟨cZ,eN,pl,br,ca,bj,rfl,bx,bb,g2,q1,cB,_,_⟩:=(r.places.on (Fr.ext l)).sF aw;have bi:da.length=ck:=by have:=c7.1;simpa using this
     have di:=(bh.procs dI (JT b4.o)).aw.2;have ao:ck≤140737488355328:=by have:=X.o;omega
     have J:pl.param=true→0≤pl.index∧pl.index<ck:=fun O=>by
      have ae:=ce.2.2.2 pl (JT bb) O;have:=X.o;omega
     have ci:(0:Int)≤(j:Int):=ab;have f1:(j:Int)<(m:Int):=ab;obtain⟨a4,aU,U⟩:=ez ao J bb;clear aD bl aJ l al bi di ao J bb;go_upto_region 8 with(fail);refine eE (fun _=>False) [(0,3),(1,0),(2,0),(3,3),(4,3),(5,3),(6,3),(7,0),(8,3),(9,3),(10,0),(11,1),(12,1),(13,2),(14,3),(15,2)] ?_;refine pf ?_
     iterate 2 refine ph ?_
     iterate 4 refine pf ?_
     refine ph ?_
     iterate 2 refine pf ?_
     refine ph ?_;refine aK rfl (fun K hK=>?_);go_simp;obtain⟨v,bD⟩:∃v:Int,v=if pl.param then da.getD pl.index.toNat 0 else pl.index:=⟨_,rfl⟩
     refine(x8 c9 cl ck ct da pl [] (.slice br ca bj) wr.drew (c7.on (Fr.ext ((a2.trans z.o).drew))) a4.o aU.o).mono ?_;rintro e aN ⟨he,ar⟩;rw[←bD] at he;subst he;have cc:=ad bD;clear bD;have aG:Ext wr aN:=Fr.aO ar;refine dW hK (ar) ?_;clear hK K;refine ru ?_;refine aq rfl (fun K hK=>?_);rw[if_pos (by rfl)];clear ar;have aP:=aG.size;have bC:=bX.size;refine qn dm (.tmp 60) (.tmp 71) (by rfl) (bS.ak aG) (d:=.i v) (by simp only[D.rep]) (by rfl) (by rfl) (by rfl) ab ab ab ?_;intro aa ax aO an ay b8 bJ;have S:∀b,(Value.slice cC j cD).ownBlock=some b→V.heap.size≤b:=fun b O=>(bS.lt O).1;have n:=(P.ak aG).on ay (fun O=>by have:=S _ O;omega);have aS:Fr (fun b=>b=W.heap.size) V aO:=by
      have c8:=bX.size;have aX:=ay.size;exact⟨ay.os.trans (aG.os.trans bX.os),ay.tape.trans (aG.tape.trans bX.tape),ay.output.trans (aG.output.trans bX.output),ab,
       fun b O hn=>(ay.block b ab (fun a8=>by have:=S _ a8;omega)).trans ((aG.block b ab fun h=>h).trans (bX.block b O hn))⟩
     have bW:=aQ an n aS;clear e0 a5 aZ a6 am aI aG an ay b8 S aS g2 q1 cB;obtain⟨e0,a5,aZ⟩:=n.two;clear n;exact lB
    ·obtain rfl:j=m:=ab;have az:=bz.ak l;have R:=ad az;obtain⟨d0,ag,aR⟩:=az.two;clear aD bl aJ l az;go_wp2_with(fail);generalize b6:World.setCell _ _ _=Y;obtain⟨bt,bA,bk⟩:=FP R.o (a2.trans z.o) ab b6;obtain⟨bv,bd,be⟩:=bt.two;refine Km (v:=.tuple #[.agg #[.int .i64 c.target,.slice cC j cD],.bool true]) (by simp[results,Tryz.results98,go_sem,bv]) rfl ?_;obtain⟨q1,cB,cv,cF⟩:=ce.o;have bM:=a2.size;have bF:=bz.lt;have cG:=bS.cO bk (fun b O _=>⟨fun h=>h,ab⟩);refine⟨true,⟨c.target,c.places.map fun pl=>if pl.param then da.getD pl.index.toNat 0 else pl.index⟩,cC,j,cD,rfl,fun _=>⟨q,q1,cB,by simpa using cv⟩,bS.cap.1,?_,bA⟩;have hS:=cG.sl (Q:=fresh w Y) (fun b _ h=>h.elim) (fun b ae aC=>⟨ab,ae⟩);rw[a7.o] at hS;simp only at hS;rw[JY (aH dv.o)] at hS;exact hS
theorem Sl.Hv{w:World}{b o n:Nat}{l:List D}(h:Sl w P (some ⟨b,o,none⟩) n l)(bi:∀d∈l,d.sz=z)(aj:k≤n):Sl w P (some ⟨b,o+k*z,none⟩) (n - k) (l.drop k):=by
 refine⟨by have:=h.1;simp;omega,fun h0=>?_⟩;obtain⟨R,aA,xs,bk,O,aU,bc⟩:=h.2 ab;injection bk with bk;injection bk with ae aC;subst ae aC;rw[←List.take_append_drop k l] at aU;obtain⟨y,bm,rfl,a4,c⟩:=D.jS aU;have a:y.length=k*z:=by
  rw[D.gU _ _ a4,D.gG (z:=z) (fun d hd=>bi d (List.mem_of_mem_take hd)),List.length_take];have:=h.1;rw[Nat.min_eq_left ab]
 refine⟨b,o+k*z,bm,rfl,O,c,fun j u hu=>?_⟩;have:=bc (k*z+j) u (by rw[List.getElem?_append_right ab,a,Nat.add_sub_cancel_left];exact hu)
 rwa [←Nat.add_assoc] at this
theorem mo{w:World}{P:Nat→Prop}:∀l:List Int,D.aI w P (l.map D.i) (l.map (Value.int .i64))
 | []=>by simp only[Kd,D.aI]
 | x::l=>by simp only[JW];exact aZ.2 ⟨_,rfl,mo l⟩
theorem nJ{w:World}{P:Nat→Prop}:∀(l:List Int) (xs:List Value),D.aI w P (l.map D.i) xs→xs=l.map (Value.int .i64)
 | [],xs,h=>by simpa only[Kd,D.aI] using h
 | x::l,xs,h=>by
  simp only[JW] at h;obtain⟨y,rfl,aC⟩:=aZ.1 h;rw[nJ l y aC,JW]
theorem so{w:World}{A:Kr}{n:Nat}{l:List Int}(h:Sl w P A n (l.map D.i)):Src w 1 A n (l.map (Value.int .i64)):=by
 obtain⟨xs,aU,hs⟩:=h.src (z:=1) (fun d hd=>by obtain⟨x,_,rfl⟩:=Ke.1 hd;rfl)
 rwa [nJ l xs aU] at hs
theorem DI(P:Nat→Prop)(lb lo:Nat)(ln lc:Nat)(l:List Int)(n:Int)(w:World)(hl:Sl w P (some ⟨lb,lo,none⟩) ln (l.map .i))(aY:∀b,P b→b<w.heap.size)(dl:ln≤1000000)(aJ:ln≤lc)(h0:0<ln) :
  Calls prog 100 #[.slice (some ⟨lb,lo,none⟩) ln lc,.int .i64 n] w
   fun e ac=>∃(A:Kr) (m c:Nat) (aV:List Int),e=.returned (.slice A m c)∧0<m∧m≤ln+1∧m≤c∧Sl ac (fun b=>P b∨fresh w ac b) A m (aV.map .i)∧Ext w ac:=by
 have be:l.length=ln:=by have:=hl.1;simpa using this
 obtain⟨bK,b4⟩:=aM hl aY;clear hl aY;go_enter func100,ntmps100;go_wp2_with(fail);refine(xT (some ⟨lb,lo,none⟩) ln lc l n w (bK.mono b4.o) ab).mono ?_;rintro e aN ⟨rfl,bF⟩;have aG:Ext w aN:=Fr.of bF;have br:=ad aG;clear bF aG;generalize decide (n∈l)=q
 cases q with
 | true=>
  go_wp2_with(fail);go_ret
  exact⟨some ⟨lb,lo,none⟩,ln,lc,l,rfl,h0,ab,aJ,(bK.aj fun b O=>br.block b (b4.o b O) fun h=>h).mono fun b O=>.inl O,br.o⟩
 | false=>
  go_wp2_with(fail);go_loopw [5] (fun cg wr=>∃k:Nat,k≤ln∧cg=.int .i64 k∧Ext w wr) (fun i _=>ln - (intOf i).toNat)
  case atStart=>exact⟨0,Kc _,rfl,br.o⟩
  case round=>
   obtain⟨k,aj,rfl,aF⟩:=hrel;have a2:=ad aF;have hS:Sl wr P (some ⟨lb,lo,none⟩) ln (l.map .i):=bK.aj fun b O=>aF.block b (b4.o b O) fun h=>h;have I:(0:Int)≤(k:Int):=ab;clear aF;have f:(k<ln∧∃x,x<n∧wr.cell? ⟨lb,lo+k,none⟩=some (.int .i64 x))∨(k<ln∧∃x,¬x<n∧wr.cell? ⟨lb,lo+k,none⟩=some (.int .i64 x))∨¬k<ln:=by
    by_cases aw:k<ln
    ·obtain⟨b,o,x,cs,bk,O,hm,aU,E,hc⟩:=Sl.gN (enc:=D.i) (z:=1) hS (fun _=>rfl) aw;injection bk with bk;injection bk with ae aC;subst ae aC;have al:cs=[.int .i64 x]:=by simpa only[D.rep] using aU
     subst al;have c0:=hc 0 _ rfl;simp only[Nat.mul_one,J0] at c0;by_cases hx:x<n
     ·exact .inl ⟨aw,x,hx,c0⟩
     ·exact .inr (.inl ⟨aw,x,hx,c0⟩)
    ·exact .inr (.inr aw)
   have bu:=ad hS;clear hS;rcases f with⟨aw,x,hx,c0⟩|f
   ·have cd:(k:Int)<(ln:Int):=ab;go_wp2_with(fail);go_roundw
    case rel=>exact⟨k+1,ab,by go_num,a2.o⟩
    case measure=>exact aB
   ·rcases f with⟨aw,x,hx,c0⟩|aw
    all_goals
     have cd:(k:Int)≤(ln:Int):=ab;go_upto_region 6 with(fail);have bx:k≤lc:=ab;obtain⟨cO,dr⟩:∃N,N=wr.heap.size:=⟨_,rfl⟩
     refine tX (fun b=>cO≤b) [7,11] (.free 1 (.free 2 (.free 3 (.free 5 (.free 8 (.free 9 (.free 10 (.pick [0,6] (fun i=>bif i == 0 then .pick [4,6] (fun i=>bif i == 4 then .pick [6] (fun _=>.pick [7] (fun _=>.pick [11] (fun _=>.free 12 (.stop)))) else .pick [4] (fun _=>.pick [7] (fun _=>.pick [11] (fun _=>.free 12 (.stop))))) else .pick [0] (fun _=>.pick [4] (fun _=>.pick [7] (fun _=>.pick [11] (fun _=>.free 12 (.stop)))))))))))))) ?_
     iterate 7 refine tf ?_
     generalize bL:(if lc=k then (some ⟨lb,lo,none⟩:Kr) else some ⟨lb,lo+k,none⟩)=A2;have cV:Sl wr P A2 (ln - k) ((l.drop k).map .i):=by
      rw[←bL];split
      ·have:ln - k=0:=ab;rw[this,Kj ab];exact Sl.bG _
      ·have:=bu.Hv (z:=1) (fun d hd=>by obtain⟨x,_,rfl⟩:=Ke.1 hd;rfl) aj;rw[Nat.mul_one,←List.map_drop] at this;exact this
     have aD:Sl wr P (some ⟨lb,lo,none⟩) k ((l.take k).map .i):=by rw[List.map_take];exact bu.take aj
     obtain⟨t,c6⟩:=aM cV aD;have v:∀b,P b→b<wr.heap.size:=fun b O=>JR (b4.o b O) a2.size;have j:=ad v;clear bL cV aD v;refine ix (P:=?_) (ops:=?_) (Q:=?_) (R:=?_) (tails:=?_) (rest:=.pick [7] (fun _=>.pick [11] (fun _=>.free 12 (.stop)))) (aa:=?_)
      (C:=fun(_:Nat) bm cf cx V=>Ext wr V∧Gr (fun _=>False) cO 3 1 V cf k cx ((l.take k).map D.i)∧af V bm 3 #[.int .i64 n]) (fun key=>?_) ?_
     rotate_left 6
     ·
      refine bq ?_ ?_
      ·
       refine eZ ?_;generalize hV:World.drew (World.alloc _ _)=T;have e1:Ext wr T:=hV▸(Kn.alloc _).drew;have cI:Gr (fun _=>False) cO 3 1 T (some ⟨wr.heap.size,0,none⟩) 0 0 []:=by rw[←hV,dr];exact(Gr.lit (w:=wr) (n:=0) (l:=[]) rfl (by rfl) ab (by simp only[D.aI])).ak Kn.drew
       have f2:=so (c6.aj fun b O=>e1.block b (j.o b O) fun h=>h);clear hV;refine bq ?_ ?_
       ·
        refine aE rfl (fun K hK=>?_) rfl;rw[if_pos (by rfl)];refine jc dm (.tmp 24) (.tmp 27) (by rfl) cI (mo (l.take k)) (by simp;omega) f2 (fun h=>by cases h) (by rfl) (by rfl) ab ab (by rw[dr];exact e1.size) ?_;intro cf cx cp b7 f1 o1 c1;refine dW hK (f1.mono fun b O=>ab) ?_;clear hK K;refine ao ?_;refine eZ ?_;have e2:Ext wr cp:=Fr.low (M:=fun b=>wr.heap.size≤b) ((e1.mono fun _ h=>h.elim).trans (f1.mono fun b O=>ab)) fun _ h=>h;have F:Ext wr (cp.alloc (.cells #[.int .i64 n] 3))∧Gr (fun _=>False) cO 3 1 (cp.alloc (.cells #[.int .i64 n] 3)) cf k cx ((l.take k).map D.i)∧af (cp.alloc (.cells #[.int .i64 n] 3)) cp.heap.size 3 #[.int .i64 n]:=
         ⟨e2.alloc _,b7.ak (Kn.alloc _),Ko⟩
        clear b7 cI f1 o1 e1 e2 f2;revert F;generalize cp.heap.size=bm;generalize wr.heap.size=df;intro F;exact key df bm cf cx _ F
       ·
        refine eZ ?_;generalize hV:World.alloc _ _=dO;have e2:Ext T dO:=hV▸Kn.alloc _;have a8:af dO T.heap.size 3 #[.int .i64 n]:=hV▸Ko;have bO:=so (c6.aj fun b O=>(e1.trans e2).block b (j.o b O) fun h=>h);clear hV f2;have dB:wr.heap.size<T.heap.size:=(cI.lt (g:=wr.heap.size) rfl).2;refine ao ?_;refine aE rfl (fun K hK=>?_) rfl;rw[if_pos (by rfl)];refine jc dm (.tmp 24) (.tmp 27) (by rfl) (cI.ak e2) (mo (l.take k)) (by simp;omega) bO (fun h=>by cases h) (by rfl) (by rfl) ab ab (by rw[dr];exact(e1.trans e2).size) ?_;intro cf cx cp b7 f1 o1 c1;refine dW hK (f1.mono fun b O=>ab) ?_;clear hK K;have e3:Ext wr cp:=Fr.low (M:=fun b=>wr.heap.size≤b) (((e1.trans e2).mono fun _ h=>h.elim).trans (f1.mono fun b O=>ab)) fun _ h=>h;have F:Ext wr cp∧Gr (fun _=>False) cO 3 1 cp cf k cx ((l.take k).map D.i)∧af cp T.heap.size 3 #[.int .i64 n]:=⟨e3,b7,a8.on f1 ab⟩
        clear b7 cI f1 o1 e1 e2 e3 bO a8 dB;revert F;generalize T.heap.size=bm;generalize wr.heap.size=df;intro F;exact key df bm cf cx _ F
      ·
       refine eZ ?_;generalize hV:World.drew (World.alloc _ _)=T;have e1:Ext wr T:=hV▸(Kn.alloc _).drew;have a8:af T wr.heap.size 3 #[.int .i64 n]:=hV▸Ko;clear hV;refine ao ?_;refine eZ ?_;generalize hV:World.alloc _ _=dO;have e2:Ext T dO:=hV▸Kn.alloc _;have cI:Gr (fun _=>False) T.heap.size 3 1 dO (some ⟨T.heap.size,0,none⟩) 0 0 []:=hV▸Gr.lit (w:=T) (n:=0) (l:=[]) rfl (by rfl) ab (by simp only[D.aI]);have da:=a8.ak e2;have bO:=so (c6.aj fun b O=>(e1.trans e2).block b (j.o b O) fun h=>h);have dB:wr.heap.size<T.heap.size:=a8.lt;clear hV a8;refine ao ?_;refine aE rfl (fun K hK=>?_) rfl;rw[if_pos (by rfl)];refine jc dm (.tmp 24) (.tmp 27) (by rfl) cI (mo (l.take k)) (by simp;omega) bO (fun h=>by cases h) (by rfl) (by rfl) ab ab e2.size ?_;intro cf cx cp b7 f1 o1 c1;refine dW hK (f1.mono fun b O=>ab) ?_;clear hK K;have e3:Ext wr cp:=Fr.low (M:=fun b=>wr.heap.size≤b) (((e1.trans e2).mono fun _ h=>h.elim).trans (f1.mono fun b O=>ab)) fun _ h=>h;have F:Ext wr cp∧Gr (fun _=>False) cO 3 1 cp cf k cx ((l.take k).map D.i)∧af cp wr.heap.size 3 #[.int .i64 n]:=⟨e3,b7.base ab,da.on f1 ab⟩
       clear b7 cI f1 o1 e1 e2 e3 bO da dB;revert F;generalize T.heap.size=df;generalize wr.heap.size=bm;intro F;exact key df bm cf cx _ F
     ·
      rintro df bm cf cx gE ⟨bs,cJ,a8⟩;have fa:=bs.size;refine ao ?_;refine bS rfl (fun K hK=>?_) rfl;rw[if_pos (by rfl)];refine eO dm (.tmp 28) (.tmp 30) (by rfl) cJ a8 (show (D.i n).rep gE _ _ from by simp only[D.rep]) (by rfl) (by rfl) (by rfl) ab ab ab ?_;intro G H fn e9 f5 gz gG;have cG:Ext wr fn:=Fr.low (M:=fun b=>wr.heap.size≤b) ((bs.mono fun _ h=>h.elim).trans (f5.mono fun b O=>by have:=(cJ.lt O).1;omega)) fun _ h=>h;clear cJ a8 bs fa f5 gz gG;have dS:=cG.size;refine eD hK ?_;clear hK K;refine ao ?_;refine bS rfl (fun K hK=>?_) rfl;rw[if_pos (by rfl)];have s:∀d∈(l.drop k).map D.i,d.sz=1:=fun d hd=>by obtain⟨x,_,rfl⟩:=Ke.1 hd;rfl
      refine DK (k:=(l.drop k).map D.i) (A2:=A2) dm (.tmp 31) (.tmp 34) (by rfl) (e9.mono (Q:=fun b=>P b) fun b _ h=>h.elim) ?_ s (by rfl) (by rfl) ab ab ab ?_
      ·exact((t.aj fun b O=>cG.block b (j.o b O) fun h=>h).mono fun b O=>⟨O,by have:=j.o b O;omega,fun h=>by have:=(e9.lt h).1;have:=j.o b O;omega⟩)
      intro y bR gN u f6 o6 r;have bG:Ext wr gN:=Fr.low (M:=fun b=>wr.heap.size≤b) ((cG.mono fun _ h=>h.elim).trans (f6.mono fun b O=>by have:=(e9.lt O).1;omega)) fun _ h=>h;have hv:k+1+(ln - k)=ln+1:=ab;simp only[hv] at u r ⊢;refine eD hK ?_;clear hK K;refine tf ?_;refine cw ?_;clear e9 f6 o6 cG dS;have bX:=aQ u r bG;clear u r bG;go_wp2_with(fail);go_ret;obtain⟨u,r,bG⟩:=bX.o;have U:=a2.size;have hS:=u.sl (Q:=fun b=>P b∨fresh w gN b) (fun b _ h=>.inl h) (fun b ae aC=>.inr ⟨ab,ae⟩);have Y:Sl gN (fun b=>P b∨fresh w gN b) y (ln+1) ((l.take k++[n]++l.drop k).map .i):=by simpa only[JX,JW,Kd] using hS
      have cc:=a2.trans bG
      first
       | exact⟨y,ln+1,bR,rfl,ab,ab,r,⟨l.take k++[n]++l.drop k,Y⟩,cc⟩
       | exact⟨y,ln+1,bR,l.take k++[n]++l.drop k,rfl,ab,ab,r,Y,cc⟩
theorem Gf:bX prog 72 177 (.agg #[.int .i64 0,.slice none 0 0]) 2 32:=bX.mk' Tryz.underlying72 (by kernel_rfl) rfl ab
theorem Gk:bX prog 73 22 (.slice none 0 0) 1 24:=bX.mk' Tryz.underlying73 (by kernel_rfl) rfl ab
theorem iQ{w ac:World}{B:Nat}{e:TypeId}{v:Value}{n:Nat}(h:w.ownsRow B e z v n xs)(aj:∀b,v.ownBlock=some b→ac.heap[b]?=w.heap[b]?):ac.ownsRow B e z v n xs:=by
 refine⟨h.1,?_⟩;rcases h.2 with aT|⟨g,cap,cur,bD,j,aS,rest⟩
 ·exact .inl aT
 ·exact .inr ⟨g,cap,cur,bD,j,(aj g (by rw[bD];rfl)).trans aS,rest⟩
structure gZ(u:av)(g B:Nat)(K:Nat→Prop)(w:World)(IA:Kr)(n ic:Nat)(bI:Kr)(bZ bO:Nat)(cj:Kr)(bc rc:Nat)(L:List hk)(cQ:List Int):Prop where
 blk:af w g 75 #[.slice IA n ic,.slice bI bZ bO,.slice cj bc rc]
 ins:Gr (fun b=>b≠g∧(Value.slice bI bZ bO).ownBlock≠some b∧¬K b) B 177 2 w IA n ic (L.map ff)
 ok:∀x∈L,lL u x
 Gm:∃xs,w.ownsRow B 22 1 (.slice bI bZ bO) bZ xs
 GL:Sl w (fun b=>b<w.heap.size∧b≠g∧(Value.slice IA n ic).ownBlock≠some b∧(Value.slice bI bZ bO).ownBlock≠some b∧¬K b) cj bc (cQ.map .i)
 vR:0<bc
 yi:bc≤rc
 ig:∀b,(Value.slice IA n ic).ownBlock=some b→b≠g∧(Value.slice bI bZ bO).ownBlock≠some b∧¬K b
 cg:∀b,(Value.slice bI bZ bO).ownBlock=some b→b≠g∧¬K b
 kg:¬K g
 kl:∀b,K b→b<w.heap.size
section
variable {u:av} {g B:Nat} {K:Nat→Prop} {w ac:World} {IA bI cj a J d:Kr} {n ic bZ bO bc rc cE Y c f:Nat} {L:List hk} {cQ i:List Int}
theorem gZ.cl(h:gZ u g B K w IA n ic bI bZ bO cj bc rc L cQ):∀b,(Value.slice bI bZ bO).ownBlock=some b→B≤b∧b<w.heap.size:=fun b O=>by
 obtain⟨xs,hx⟩:=h.Gm;exact hx.lt b O
theorem gZ.on(h:gZ u g B K w IA n ic bI bZ bO cj bc rc L cQ)(O:Fr K w ac):gZ u g B K ac IA n ic bI bZ bO cj bc rc L cQ:=by
 refine⟨h.blk.on O h.kg,h.ins.c7 O.size fun b aw hp=>O.block b aw ?_,h.ok,?_,(h.GL.aj fun b hp=>O.block b hp.1 hp.2.2.2.2).mono fun b hp=>⟨JR hp.1 O.size,hp.2⟩,h.vR,h.yi,h.ig,h.cg,h.kg,fun b aj=>JR (h.kl b aj) O.size⟩
 ·rcases hp with hp|hp
  ·exact hp.2.2
  ·exact(h.ig b hp).2.2
 ·obtain⟨xs,hx⟩:=h.Gm;exact⟨xs,iQ hx fun b hp=>O.block b (hx.lt b hp).2 (h.cg b hp).2⟩
theorem gZ.apart(h:gZ u g B K w IA n ic bI bZ bO cj bc rc L cQ)(O:Ext w ac)(aj:w.heap.size≤k)(cn:k<ac.heap.size):gZ u g B (fun b=>b=k) ac IA n ic bI bZ bO cj bc rc L cQ:=by
 have ae:=h.on (O.mono fun _ h=>h.elim);have E:=h.blk.lt;refine⟨ae.blk,(h.ins.mono fun b aw hp=>⟨hp.1,hp.2.1,ab⟩).ak O,h.ok,ae.Gm,
  (h.GL.aj fun b hp=>O.block b hp.1 fun h=>h).mono fun b hp=>⟨JR hp.1 O.size,hp.2.1,hp.2.2.1,hp.2.2.2.1,by have:=hp.1;omega⟩,
  h.vR,h.yi,fun b hp=>⟨(h.ig b hp).1,(h.ig b hp).2.1,?_⟩,fun b hp=>⟨(h.cg b hp).1,?_⟩,ab,fun b O=>ab⟩
 ·have:=(h.ins.lt hp).2;omega
 ·have:=(h.cl b hp).2;omega
theorem gZ.free(h:gZ u g B K w IA n ic bI bZ bO cj bc rc L cQ):gZ u g B (fun _=>False) w IA n ic bI bZ bO cj bc rc L cQ:=
 ⟨h.blk,h.ins.mono fun b _ hp=>⟨hp.1,hp.2.1,fun h=>h⟩,h.ok,h.Gm,h.GL.mono fun b hp=>⟨hp.1,hp.2.1,hp.2.2.1,hp.2.2.2.1,fun h=>h⟩,h.vR,h.yi,fun b hp=>⟨(h.ig b hp).1,(h.ig b hp).2.1,fun h=>h⟩,fun b hp=>⟨(h.cg b hp).1,fun h=>h⟩,fun h=>h,fun _ h=>h.elim⟩
theorem gZ.H3(h:gZ u g B K w IA n ic bI bZ bO cj bc rc L cQ){x:hk}(hx:lL u x)
  (aJ:Gr (fun b=>b≠g∧(Value.slice bI bZ bO).ownBlock≠some b∧¬K b) B 177 2 ac a (n+1) cE (L.map ff++[ff x])) (aD:Fr (fun b=>(Value.slice IA n ic).ownBlock=some b) w ac) (a8:dc w IA n ic a (n+1) cE) :
  gZ u g B K (ac.setCell ⟨g,0,none⟩ (.slice a (n+1) cE)) a (n+1) cE bI bZ bO cj bc rc (L++[x]) cQ:=by
 have E:=h.blk.lt;have hs:=aD.size;have dx:∀b,(Value.slice a (n+1) cE).ownBlock=some b→b≠g∧(Value.slice bI bZ bO).ownBlock≠some b∧¬K b:=fun b hp=>by
  rcases a8 b hp with ae|ae
  ·exact h.ig b ae
  ·exact⟨ab,fun hc=>by have:=(h.cl b hc).2;omega,fun aj=>by have:=h.kl b aj;omega⟩
 have aZ:Fr (fun b=>b=g) ac (ac.setCell ⟨g,0,none⟩ (.slice a (n+1) cE)):=(Fr.refl (fun b=>b=g) ac).setCell (.inl rfl) _;refine⟨(h.blk.on aD fun O=>(h.ig g O).1 rfl).aC 0 _,?_,?_,?_,?_,h.vR,h.yi,dx,h.cg,h.kg,fun b aj=>by have:=h.kl b aj;simp;omega⟩
 ·rw[JX,JW,Kd];exact aJ.c7 aZ.size fun b aw hp=>aZ.block b aw fun O=>by
   subst O;rcases hp with hp|hp
   ·exact hp.1 rfl
   ·exact(dx b hp).1 rfl
 ·intro y a4;rcases JZ.1 a4 with a4|a4
  ·exact h.ok y a4
  ·simp at a4;subst a4;exact hx
 ·obtain⟨xs,hx⟩:=h.Gm;exact⟨xs,iQ hx fun b hp=>(aZ.block b (by have:=(hx.lt b hp).2;omega) (h.cg b hp).1).trans (aD.block b (hx.lt b hp).2 fun O=>(h.ig b O).2.1 hp)⟩
 ·refine(h.GL.aj fun b hp=>(aZ.block b (aH hp.1) hp.2.1).trans (aD.block b hp.1 hp.2.2.1)).mono fun b hp=>⟨by have:=hp.1;simp;omega,hp.2.1,fun O=>?_,hp.2.2.2⟩
  rcases a8 b O with ae|ae
  ·exact hp.2.2.1 ae
  ·have:=hp.1;omega
theorem gZ.H2(h:gZ u g B K w IA n ic bI bZ bO cj bc rc L cQ)(aJ:ac.ownsRow B 22 1 (.slice J (bZ+1) Y) (bZ+1) xs)(aD:Fr (fun b=>(Value.slice bI bZ bO).ownBlock=some b) w ac)(a8:dc w bI bZ bO J (bZ+1) Y):
  gZ u g B K (ac.setCell ⟨g,1,none⟩ (.slice J (bZ+1) Y)) IA n ic J (bZ+1) Y cj bc rc L cQ:=by
 have E:=h.blk.lt;have hs:=aD.size;have e:∀b,(Value.slice J (bZ+1) Y).ownBlock=some b→b≠g∧¬K b:=fun b hp=>by
  rcases a8 b hp with ae|ae
  ·exact h.cg b ae
  ·exact⟨ab,fun aj=>by have:=h.kl b aj;omega⟩
 have aZ:Fr (fun b=>b=g) ac (ac.setCell ⟨g,1,none⟩ (.slice J (bZ+1) Y)):=(Fr.refl (fun b=>b=g) ac).setCell (.inl rfl) _;refine⟨(h.blk.on aD fun O=>(h.cg g O).1 rfl).aC 1 _,?_,h.ok,?_,?_,h.vR,h.yi,fun b hp=>⟨(h.ig b hp).1,fun O=>?_,(h.ig b hp).2.2⟩,e,h.kg,fun b aj=>by have:=h.kl b aj;simp;omega⟩
 ·have ae:Gr (fun b=>b≠g∧(Value.slice J (bZ+1) Y).ownBlock≠some b∧¬K b∧(Value.slice bI bZ bO).ownBlock≠some b) B 177 2 w IA n ic (L.map ff):=h.ins.mono fun b aw hp=>⟨hp.1,fun O=>by
   rcases a8 b O with ae|ae
   ·exact hp.2.1 ae
   ·omega,hp.2.2,hp.2.1⟩
  have aC:=ae.c7 (ac:=ac.setCell ⟨g,1,none⟩ (.slice J (bZ+1) Y)) (by simp;omega) fun b aw hp=>(aZ.block b ab (by
    rcases hp with hp|hp
    ·exact hp.1
    ·exact(h.ig b hp).1)).trans (aD.block b aw (by
    rcases hp with hp|hp
    ·exact hp.2.2.2
    ·exact(h.ig b hp).2.1))
  exact aC.mono fun b _ hp=>⟨hp.1,hp.2.1,hp.2.2.1⟩
 ·exact⟨xs,iQ aJ fun b hp=>aZ.block b (aJ.lt b hp).2 (e b hp).1⟩
 ·refine(h.GL.aj fun b hp=>(aZ.block b (aH hp.1) hp.2.1).trans (aD.block b hp.1 hp.2.2.2.1)).mono fun b hp=>⟨by have:=hp.1;simp;omega,hp.2.1,hp.2.2.1,fun O=>?_,hp.2.2.2.2⟩
  rcases a8 b O with ae|ae
  ·exact hp.2.2.2.1 ae
  ·have:=hp.1;omega
 ·rcases a8 b O with ae|ae
  ·exact(h.ig b hp).2.1 ae
  ·have:=(h.ins.lt hp).2;omega
theorem gZ.IF(h:gZ u g B K w IA n ic bI bZ bO cj bc rc L cQ)(aY:P=fun b=>b<w.heap.size∧b≠g∧(Value.slice IA n ic).ownBlock≠some b∧(Value.slice bI bZ bO).ownBlock≠some b∧¬K b)
  (aU:Sl ac (fun b=>P b∨fresh w ac b) d c (i.map .i)) (aF:Ext w ac) (h0:0<c) (hc:c≤f) :
  gZ u g B K (ac.setCell ⟨g,2,none⟩ (.slice d c f)) IA n ic bI bZ bO d c f L i:=by
 subst aY;have E:=h.blk.lt;have hs:=aF.size;have ae:=h.on (aF.mono fun _ h=>h.elim);have aZ:Fr (fun b=>b=g) ac (ac.setCell ⟨g,2,none⟩ (.slice d c f)):=(Fr.refl (fun b=>b=g) ac).setCell (.inl rfl) _;refine⟨ae.blk.aC 2 _,ae.ins.c7 aZ.size fun b aw hp=>aZ.block b aw ?_,h.ok,?_,?_,h0,hc,h.ig,h.cg,h.kg,fun b aj=>by have:=h.kl b aj;simp;omega⟩
 ·rcases hp with hp|hp
  ·exact hp.1
  ·exact(h.ig b hp).1
 ·obtain⟨xs,hx⟩:=ae.Gm;exact⟨xs,iQ hx fun b hp=>aZ.block b (hx.lt b hp).2 (h.cg b hp).1⟩
 ·have bm:∀b,((b<w.heap.size∧b≠g∧(Value.slice IA n ic).ownBlock≠some b∧(Value.slice bI bZ bO).ownBlock≠some b∧¬K b)∨fresh w ac b)→(b<ac.heap.size∧b≠g∧(Value.slice IA n ic).ownBlock≠some b∧(Value.slice bI bZ bO).ownBlock≠some b∧¬K b):=fun b hp=>by
   rcases hp with hp|hp
   ·exact⟨by have:=hp.1;omega,hp.2⟩
   ·have ae:=hp.1;exact⟨hp.2,ab,fun O=>by have:=(h.ins.lt O).2;omega,fun O=>by have:=(h.cl b O).2;omega,fun aj=>by have:=h.kl b aj;omega⟩
  exact((aU.mono bm).aj fun b hp=>aZ.block b hp.1 hp.2.1).mono fun b hp=>⟨by have:=hp.1;simp;omega,hp.2⟩
end
end Go.Proofs.YtbkhhfajcgkpgaaGreat
