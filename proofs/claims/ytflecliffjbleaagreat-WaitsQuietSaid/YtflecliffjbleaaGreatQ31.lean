/- Part 31 of the proof. No condition of its own. -/
import Derived.Test.YtflecliffjbleaaGreatQ26
namespace Go.Proofs.YtflecliffjbleaaGreat
open Go.RowKit Go.Proofs.Tryz
set_option maxRecDepth 1000000
set_option maxHeartbeats 25600000
set_option linter.unusedVariables false
variable{xs:List Value}{k z:Nat}{P:Nat->Prop}
theorem GQ{w X V:World}{g:Nat}{t:TypeId}{v0 v1 c0 c1:Value}(aN:an V g t #[c0,c1])(aE:Ext w V)(aK:w.heap.size<=g)(hX:(V.setCell ⟨g,0,none⟩ v0).setCell ⟨g,1,none⟩ v1=X):
  an X g t #[v0,v1]/\Ext w X/\Fr (λb=>b=g) V X:=by
 subst hX;exact⟨(aN.aD 0 v0).aD 1 v1,(aE.setCell (.inr aK) _).setCell (.inr aK) _,((Fr.refl (λb=>b=g) V).setCell (.inl rfl) _).setCell (.inl rfl) _⟩
theorem sO{u:av}(hu:cP u){p:di}(hp:p∈u.procs){c:ay}(hc:c∈p.code)(bl:c.op=2\/c.op=3):
  ∃q,0<=c.target/\u.procs[c.target.toNat]?=some q/\(c.places.length:Int)=q.aw/\q.aw<=100/\∀pl∈c.places,pl.param=true->0<=pl.index/\pl.index<p.aw:=by
 obtain⟨s,hs,hl,aI⟩:=(hu.procs p hp).code;rw[hs] at hc;rcases Lk.1 hc with hc|hc
 .rcases aI c hc with h|h|h|h|h|h
  .omega
  .obtain⟨_,_,sg,h0,k,ak,bf,_,aY⟩:=h;simp only[bj,List.getElem?_map] at k
   cases br:u.procs[c.target.toNat]? with
   | none=>rw[br] at k;cases k
   | some q=>
    rw[br] at k;injection k with k;subst k;refine⟨q,h0,rfl,bf,(hu.procs q (Le br)).aw.2,λpl hm O=>?_⟩;have:=aY pl hm;unfold cI at this;simp_all
  .omega
  .omega
  .omega
  .omega
 .simp only[LF] at hc;subst hc;simp[nD] at bl
namespace Cw
theorem jU{p:Prop}(h:p:=by
 clear e0 bk a5;generalize bP:World.setCell aV _ _=cA;have bO:=dj bP;have S:an cA W.heap.size 176 #[.int .i64 c.target,.slice aH (j+1) a4]:=bP▸bY.2.1.aD 1 _;clear bP;have cH:=bY.1.cS bO (λb O _=>⟨λh=>h,ab⟩);have ah:=aL S cH (bY.2.2.trans bO);clear S cH bO;go_wp2_with(fail);go_roundw
 case rel=>
  refine⟨j+1,aH,a4,ab,by go_num,ah.2.2,ah.1,?_⟩;have:=ah.2.1;rw[a1.o j pl P.o,<-ch.o];exact this
 case measure=>exact az
 ):p:=h
end Cw
open Cw in
theorem pP(u:av)(hu:cP u)(GA:LP)(gn gc:Nat)(MA:LP)(mn mc:Nat)(PA:LP)(pn pc:Nat)(x:hE)(cu:LP)(cr cD:Nat)(p:di)(h0:0<=x.proc)(hp:u.procs[x.proc.toNat]?=some p)(aX:(x.aw.length:Int)=p.aw)
  (k:Nat) (ai:k<p.code.length) (w:World) (hU:hj w (au w) u GA gn MA mn PA pn) (hX:Sl w (au w) cu cr (x.aw.map .i)) :
  Calls prog 97 #[.agg #[.slice GA gn gc,.slice MA mn mc,.slice PA pn pc,.int .i64 u.main],.agg #[.int .i64 x.proc,.slice cu cr cD],.int .i64 k] w
   λe ac=>∃(ok:Bool) (y:hE) (cK:LP) (cR cT:Nat),e=.returned (.tuple #[.agg #[.int .i64 y.proc,.slice cK cR cT],.bool ok])/\(ok=true->mg u y)/\cR<=cT/\Sl ac (fresh w ac) cK cR (y.aw.map .i)/\Ext w ac:=by
 obtain⟨ev,db⟩:=x;simp only at h0 hp aX hX ⊢;obtain⟨dd,rfl⟩:=Lg h0;rw[Lw] at hp;have eh:u.procs.length=pn:=by rw[<-hU.p.1,Lf]
 have s0:dd<pn:=by have:=(List.getElem?_eq_some_iff.1 hp).1;omega
 have gI:pn<=16:=by have:=hu.GW;omega
 have bi:p.code.length<=201:=by
  obtain⟨s,hs,hl,_⟩:=(hu.procs p (Le hp)).code;rw[hs];simp;omega
 obtain⟨cv,bn,dr,c6,cb,ao,bv⟩:=CP hu hu hU hX hp aX ai;clear hU hX hp aX h0 eh hu;go_enter func97,ntmps97;go_upto_region 1 with(fail);generalize be:World.alloc _ _=W;have aE:=nt be;have aN:=lL be;have bF:=jv be;have bW:=lM be;obtain⟨a8,bx,b8,b6⟩:=iR aE aN bF bW;obtain⟨a0,ap,aj⟩:=aN.two;obtain⟨a3,am,aJ⟩:=bF.two;obtain⟨d0,af,aS⟩:=bW.two;clear be aE aN bF bW;obtain⟨bN,op,dJ,bQ,b1,bT,rfl,bJ,cq,p0,ag,ey,p3,p4,Z,T⟩:=(dr.on a8.o).proc s0;obtain rfl:dJ=p:=by rw[cb.o] at cq;injection cq with cq;exact cq.symm
 have f2:dJ.code.length=b1:=by rw[<-T.1,Lf]
 have co:k<b1:=ab;have bw:(0:Int)<=(k:Int):=ab;have ci:(k:Int)<(b1:Int):=ab;have U:(0:Int)<=(dd:Int):=ab;have dl:(dd:Int)<(pn:Int):=ab;obtain⟨fk,bp,c,cells,eo,en,es,EA,em,ec,QA,qm,qc,IA,i,ic,KA,m,da,rfl,cC,hc,cl,aI⟩:=T.Dz co;obtain⟨I,a6⟩:=aM cl hc;have aY:=cl.cells;subst aY;have c0:=aI 0 _ rfl;have c1:=aI 1 _ rfl;have aT:=aI 11 _ rfl;have bu:=ad T;clear aI T hc cq p0 ag ey p3 f2 cl;simp only[Ll] at c0;by_cases bl:c.op=2\/c.op=3
 case neg=>
  have fg:(c.op != 2)=true:=by simp;omega
  have o3:(c.op != 3)=true:=by simp;omega
  clear bl;go_wp2_with(fail);generalize b7:World.setCell _ _ _=Y;obtain⟨bz,bA,bj⟩:=GQ b6.o a8.o ab b7;obtain⟨bE,bg,bh⟩:=bz.two;refine LK (v:=.tuple #[.agg #[.int .i64 0,.slice none 0 0],.bool false]) (by simp[results,Tryz.results97,go_sem,bE]) rfl ?_;exact⟨false,⟨0,[]⟩,none,0,0,rfl,(λh=>by cases h),Lb _,Sl.bN _,bA⟩
 case pos=>
  obtain⟨q,H,br,L,e7,eJ⟩:=sO cv.o (Le cb.o) (Le a6.o) bl;have hm:c.places.length=m:=by have:=I.places.1;simpa using this
  have bU:=bG H br L eJ;have ck:m<=100:=ab;have dL:=ad hm;clear H br L eJ hm e7;rcases bl with bl|bl
  all_goals
   simp only[bl] at c0;clear bl;go_wp2_with(fail);generalize hV:World.alloc _ _=V;have bm:=bb hV;have gm:an V W.heap.size 176 #[.int .i64 c.target,.slice none 0 0]:=hV▸an.hY _ _ _ (by simp);have cW:W.heap.size<V.heap.size:=by rw[<-hV];simp
   clear hV;obtain⟨b4,R⟩:=aM bm gm;clear a0 ap aj a3 am aJ d0 af aS bm gm;obtain⟨eT,r⟩:∃eT:Nat->List D,eT=λj=>(((c.places.take j).map λpl=>if pl.param then db.getD pl.index.toNat 0 else pl.index).map .i):=⟨_,rfl⟩
   have aR:=ad r;have bL:eT 0=[]:=by rw[r];rfl
   have N:∀j pl,c.places[j]?=some pl->eT (j+1)=eT j++[.i (if pl.param then db.getD pl.index.toNat 0 else pl.index)]:=λj pl h=>by rw[r];simp only;rw[List.take_add_one,h];simp
   obtain⟨aG,a1⟩:=aM bL N;clear r bL N
   try rw[show w.heap.size+1+1=w.heap.size+2 from rfl]
   generalize decide ((k:Int)<0)=aQ;generalize decide (b1<=k)=bc;generalize (aQ || bc)=bC;go_loopw [10] (λce wr=>∃(j:Nat) (cK:LP) (cT:Nat),j<=m/\ce=.int .i64 j/\Fr (λb=>b=W.heap.size) V wr/\an wr W.heap.size 176 #[.int .i64 c.target,.slice cK j cT]/\Gr (λ_=>False) V.heap.size 3 1 wr cK j cT (eT j)) (λi _=>m - (intOf i).toNat)
   case atStart=>exact⟨0,none,0,Lx _,rfl,LL,R.o,by rw[aG.o];exact Gr.nil _ _ _ _ _⟩
   case round=>
    obtain⟨j,cK,cT,bd,rfl,J,aW,aK⟩:=hrel;have l:Ext W wr:=Fr.low (M:=λb=>b=W.heap.size) ((Fr.mono b4.o λ_ h=>h.elim).trans J) λk ai=>ab;have bs:=(l.rz.1 fk (bp+k*12+11) cC).trans aT;obtain⟨R,z,b0,cj⟩:=iR aW l J aK;have bM:W.heap.size<wr.heap.size:=aW.lt;have bt:fk<wr.heap.size:=Lc cC l.size;obtain⟨e0,bk,a5⟩:=aW.two;obtain⟨a3,am,aJ⟩:=(b8.aj l).two;by_cases aw:j<m
    .obtain⟨c7,fg,pl,bB,cg,bq,rfl,a9,bf,hf,q1,cp,_,_⟩:=(I.places.on (Fr.ext l)).ti aw;have bo:db.length=cr:=by have:=c6.1;simpa using this
     have dk:=(bn.procs dJ (Le cb.o)).aw.2;have aU:cr<=140737488355328:=by have:=ao.o;omega
     have aa:pl.param=true->0<=pl.index/\pl.index<cr:=λO=>by
      have ae:=bU.2.2.2 pl (Le bf) O;have:=ao.o;omega
     have b9:(0:Int)<=(j:Int):=ab;have f0:(j:Int)<(m:Int):=ab;obtain⟨ba,a7,P⟩:=eG aU aa bf;clear J aW aK l aT bo dk aU aa bf;go_upto_region 8 with(fail);refine eU (λ_=>False) [(0,3),(1,0),(2,0),(3,3),(4,3),(5,3),(6,3),(7,0),(8,3),(9,3),(10,0),(11,1),(12,1),(13,2),(14,3),(15,2)] ?_;refine pf ?_
     iterate 2 refine ph ?_
     iterate 4 refine pf ?_
     refine ph ?_
     iterate 2 refine pf ?_
     refine ph ?_;refine aO rfl (λK hK=>?_);go_simp;obtain⟨v,bD⟩:∃v:Int,v=if pl.param then db.getD pl.index.toNat 0 else pl.index:=⟨_,rfl⟩
     refine(yX dd cu cr cD db pl [] (.slice bB cg bq) wr.drew (c6.on (Fr.ext ((a8.trans z.o).drew))) ba.o a7.o).mono ?_;rintro e aP ⟨he,ar⟩;rw[<-bD] at he;subst he;have ch:=ad bD;clear bD;have aF:Ext wr aP:=Fr.aQ ar;refine ei hK (ar) ?_;clear hK K;refine r9 ?_;refine aq rfl (λK hK=>?_);rw[if_pos (by rfl)];clear ar;have aZ:=aF.size;have bH:=b0.size;refine q2 de (.tmp 60) (.tmp 71) (by rfl) (cj.aj aF) (d:=.i v) (by simp only[D.rep]) (by rfl) (by rfl) (by rfl) ab ab ab ?_;intro aH a4 aV al ay cf bR;have ax:∀b,(Value.slice cK j cT).ownBlock=some b->V.heap.size<=b:=λb O=>(cj.lt O).1;have n:=(R.aj aF).on ay (λO=>by have:=ax _ O;omega);have a2:Fr (λb=>b=W.heap.size) V aV:=by
      have c9:=b0.size;have b5:=ay.size;exact⟨ay.os.trans (aF.os.trans b0.os),ay.tape.trans (aF.tape.trans b0.tape),ay.output.trans (aF.output.trans b0.output),ab,
       λb O hn=>(ay.block b ab (λbl=>by have:=ax _ bl;omega)).trans ((aF.block b ab λh=>h).trans (b0.block b O hn))⟩
     have bY:=aL al n a2;clear e0 bk a5 a3 am aJ aF al ay cf ax a2 hf q1 cp;obtain⟨e0,bk,a5⟩:=n.two;clear n;exact l2
    .obtain rfl:j=m:=ab;have aA:=b6.aj l;have ak:=ad aA;obtain⟨d0,af,aS⟩:=aA.two;clear J aW aK l aA;go_wp2_with(fail);generalize b7:World.setCell _ _ _=Y;obtain⟨bz,bA,bj⟩:=GQ ak.o (a8.trans z.o) ab b7;obtain⟨bE,bg,bh⟩:=bz.two;refine LK (v:=.tuple #[.agg #[.int .i64 c.target,.slice cK j cT],.bool true]) (by simp[results,Tryz.results97,go_sem,bE]) rfl ?_;obtain⟨q1,cp,cw,cO⟩:=bU.o;have bK:=a8.size;have bI:=b6.lt;have cz:=cj.cS bj (λb O _=>⟨λh=>h,ab⟩);refine⟨true,⟨c.target,c.places.map λpl=>if pl.param then db.getD pl.index.toNat 0 else pl.index⟩,cK,j,cT,rfl,λ_=>⟨q,q1,cp,by simpa using cw⟩,cj.cap.1,?_,bA⟩;have hS:=cz.sl (Q:=fresh w Y) (λb _ h=>h.elim) (λb ae aD=>⟨ab,ae⟩);rw[aR.o] at hS;simp only at hS;rw[Lj (aC dL.o)] at hS;exact hS
theorem Sl.IJ{w:World}{b o n:Nat}{l:List D}(h:Sl w P (some ⟨b,o,none⟩) n l)(ba:∀d∈l,d.sz=z)(ai:k<=n):Sl w P (some ⟨b,o+k*z,none⟩) (n - k) (l.drop k):=by
 refine⟨by have:=h.1;simp;omega,λh0=>?_⟩;obtain⟨M,av,xs,bp,O,aQ,bd⟩:=h.2 ab;injection bp with bp;injection bp with ae aD;subst ae aD;rw[<-List.take_append_drop k l] at aQ;obtain⟨y,br,rfl,a4,c⟩:=D.j8 aQ;have a:y.length=k*z:=by
  rw[D.g8 _ _ a4,D.gN (z:=z) (λd hd=>ba d (List.mem_of_mem_take hd)),List.length_take];have:=h.1;rw[Nat.min_eq_left ab]
 refine⟨b,o+k*z,br,rfl,O,c,λj u hu=>?_⟩;have:=bd (k*z+j) u (by rw[List.getElem?_append_right ab,a,Nat.add_sub_cancel_left];exact hu)
 rwa [<-Nat.add_assoc] at this
theorem mX{w:World}{P:Nat->Prop}:∀l:List Int,D.aJ w P (l.map D.i) (l.map (Value.int .i64))
 | []=>by simp only[Ly,D.aJ]
 | x::l=>by simp only[Lh];exact a5.2 ⟨_,rfl,mX l⟩
theorem oj{w:World}{P:Nat->Prop}:∀(l:List Int) (xs:List Value),D.aJ w P (l.map D.i) xs->xs=l.map (Value.int .i64)
 | [],xs,h=>by simpa only[Ly,D.aJ] using h
 | x::l,xs,h=>by
  simp only[Lh] at h;obtain⟨y,rfl,aD⟩:=a5.1 h;rw[oj l y aD,Lh]
theorem s4{w:World}{A:LP}{n:Nat}{l:List Int}(h:Sl w P A n (l.map D.i)):Src w 1 A n (l.map (Value.int .i64)):=by
 obtain⟨xs,aQ,hs⟩:=h.src (z:=1) (λd hd=>by obtain⟨x,_,rfl⟩:=Lz.1 hd;rfl)
 rwa [oj l xs aQ] at hs
theorem EB(P:Nat->Prop)(lb lo:Nat)(ln lc:Nat)(l:List Int)(n:Int)(w:World)(hl:Sl w P (some ⟨lb,lo,none⟩) ln (l.map .i))(aY:∀b,P b->b<w.heap.size)(dn:ln<=1000000)(aK:ln<=lc)(h0:0<ln) :
  Calls prog 99 #[.slice (some ⟨lb,lo,none⟩) ln lc,.int .i64 n] w
   λe ac=>∃(A:LP) (m c:Nat) (aW:List Int),e=.returned (.slice A m c)/\0<m/\m<=ln+1/\m<=c/\Sl ac (λb=>P b\/fresh w ac b) A m (aW.map .i)/\Ext w ac:=by
 have bg:l.length=ln:=by have:=hl.1;simpa using this
 obtain⟨bN,cb⟩:=aM hl aY;clear hl aY;go_enter func99,ntmps99;go_wp2_with(fail);refine(yJ (some ⟨lb,lo,none⟩) ln lc l n w (bN.mono cb.o) ab).mono ?_;rintro e aP ⟨rfl,bL⟩;have aF:Ext w aP:=Fr.of bL;have bs:=ad aF;clear bL aF;generalize decide (n∈l)=q
 cases q with
 | true=>
  go_wp2_with(fail);go_ret
  exact⟨some ⟨lb,lo,none⟩,ln,lc,l,rfl,h0,ab,aK,(bN.ai λb O=>bs.block b (cb.o b O) λh=>h).mono λb O=>.inl O,bs.o⟩
 | false=>
  go_wp2_with(fail);go_loopw [5] (λce wr=>∃k:Nat,k<=ln/\ce=.int .i64 k/\Ext w wr) (λi _=>ln - (intOf i).toNat)
  case atStart=>exact⟨0,Lx _,rfl,bs.o⟩
  case round=>
   obtain⟨k,ai,rfl,aE⟩:=hrel;have a8:=ad aE;have hS:Sl wr P (some ⟨lb,lo,none⟩) ln (l.map .i):=bN.ai λb O=>aE.block b (cb.o b O) λh=>h;have bw:(0:Int)<=(k:Int):=ab;clear aE;have f:(k<ln/\∃x,x<n/\wr.cell? ⟨lb,lo+k,none⟩=some (.int .i64 x))\/(k<ln/\∃x,¬x<n/\wr.cell? ⟨lb,lo+k,none⟩=some (.int .i64 x))\/¬k<ln:=by
    by_cases aw:k<ln
    .obtain⟨b,o,x,cs,bp,O,hm,aQ,E,hc⟩:=Sl.gZ (enc:=D.i) (z:=1) hS (λ_=>rfl) aw;injection bp with bp;injection bp with ae aD;subst ae aD;have J:cs=[.int .i64 x]:=by simpa only[D.rep] using aQ
     subst J;have c0:=hc 0 _ rfl;simp only[Nat.mul_one,Ll] at c0;by_cases hx:x<n
     .exact .inl ⟨aw,x,hx,c0⟩
     .exact .inr (.inl ⟨aw,x,hx,c0⟩)
    .exact .inr (.inr aw)
   have bB:=ad hS;clear hS;rcases f with⟨aw,x,hx,c0⟩|f
   .have ci:(k:Int)<(ln:Int):=ab;go_wp2_with(fail);go_roundw
    case rel=>exact⟨k+1,ab,by go_num,a8.o⟩
    case measure=>exact az
   .rcases f with⟨aw,x,hx,c0⟩|aw
    all_goals
     have ci:(k:Int)<=(ln:Int):=ab;go_upto_region 6 with(fail);have bo:k<=lc:=ab;obtain⟨cR,du⟩:∃N,N=wr.heap.size:=⟨_,rfl⟩
     refine uP (λb=>cR<=b) [7,11] (.free 1 (.free 2 (.free 3 (.free 5 (.free 8 (.free 9 (.free 10 (.pick [0,6] (λi=>bif i == 0 then .pick [4,6] (λi=>bif i == 4 then .pick [6] (λ_=>.pick [7] (λ_=>.pick [11] (λ_=>.free 12 (.stop)))) else .pick [4] (λ_=>.pick [7] (λ_=>.pick [11] (λ_=>.free 12 (.stop))))) else .pick [0] (λ_=>.pick [4] (λ_=>.pick [7] (λ_=>.pick [11] (λ_=>.free 12 (.stop)))))))))))))) ?_
     iterate 7 refine tf ?_
     generalize bu:(if lc=k then (some ⟨lb,lo,none⟩:LP) else some ⟨lb,lo+k,none⟩)=A2;have cz:Sl wr P A2 (ln - k) ((l.drop k).map .i):=by
      rw[<-bu];split
      .have:ln - k=0:=ab;rw[this,LH ab];exact Sl.bN _
      .have:=bB.IJ (z:=1) (λd hd=>by obtain⟨x,_,rfl⟩:=Lz.1 hd;rfl) ai;rw[Nat.mul_one,<-List.map_drop] at this;exact this
     have aN:Sl wr P (some ⟨lb,lo,none⟩) k ((l.take k).map .i):=by rw[List.map_take];exact bB.take ai
     obtain⟨u,c4⟩:=aM cz aN;have v:∀b,P b->b<wr.heap.size:=λb O=>Lc (cb.o b O) a8.size;have j:=ad v;clear bu cz aN v;refine iL (P:=?_) (ops:=?_) (Q:=?_) (R:=?_) (tails:=?_) (rest:=.pick [7] (λ_=>.pick [11] (λ_=>.free 12 (.stop)))) (aa:=?_)
      (C:=λ(_:Nat) bE ck aZ V=>Ext wr V/\Gr (λ_=>False) cR 3 1 V ck k aZ ((l.take k).map D.i)/\an V bE 3 #[.int .i64 n]) (λkey=>?_) ?_
     rotate_left 6
     ·
      refine bt ?_ ?_
      ·
       refine fj ?_;generalize hV:World.drew (World.alloc _ _)=br;have e1:=gX hV;have ch:Gr (λ_=>False) cR 3 1 br (some ⟨wr.heap.size,0,none⟩) 0 0 []:=by rw[<-hV,du];exact(Gr.lit (w:=wr) (n:=0) (l:=[]) rfl (by rfl) ab (by simp only[D.aJ])).aj LL.drew
       have f2:=s4 (c4.ai λb O=>e1.block b (j.o b O) λh=>h);clear hV;refine bt ?_ ?_
       ·
        refine aG rfl (λK hK=>?_) rfl;rw[if_pos (by rfl)];refine jr de (.tmp 24) (.tmp 27) (by rfl) ch (mX (l.take k)) (by simp;omega) f2 (λh=>by cases h) (by rfl) (by rfl) ab ab (by rw[du];exact e1.size) ?_;intro ck aZ cx b9 f1 o1 c1;refine ei hK (f1.mono λb O=>ab) ?_;clear hK K;refine ao ?_;refine fj ?_;have e2:Ext wr cx:=Fr.low (M:=λb=>wr.heap.size<=b) ((e1.mono λ_ h=>h.elim).trans (f1.mono λb O=>ab)) λ_ h=>h;have F:Ext wr (cx.alloc (.cells #[.int .i64 n] 3))/\Gr (λ_=>False) cR 3 1 (cx.alloc (.cells #[.int .i64 n] 3)) ck k aZ ((l.take k).map D.i)/\an (cx.alloc (.cells #[.int .i64 n] 3)) cx.heap.size 3 #[.int .i64 n]:=
         ⟨e2.alloc _,b9.aj (LL.alloc _),LM⟩
        clear b9 ch f1 o1 e1 e2 f2;revert F;generalize cx.heap.size=bE;generalize wr.heap.size=eT;intro F;exact key eT bE ck aZ _ F
       ·
        refine fj ?_;generalize hV:World.alloc _ _=eH;have e2:=bb hV;have b7:an eH br.heap.size 3 #[.int .i64 n]:=hV▸LM;have bQ:=s4 (c4.ai λb O=>(e1.trans e2).block b (j.o b O) λh=>h);clear hV f2;have dB:wr.heap.size<br.heap.size:=(ch.lt (g:=wr.heap.size) rfl).2;refine ao ?_;refine aG rfl (λK hK=>?_) rfl;rw[if_pos (by rfl)];refine jr de (.tmp 24) (.tmp 27) (by rfl) (ch.aj e2) (mX (l.take k)) (by simp;omega) bQ (λh=>by cases h) (by rfl) (by rfl) ab ab (by rw[du];exact(e1.trans e2).size) ?_;intro ck aZ cx b9 f1 o1 c1;refine ei hK (f1.mono λb O=>ab) ?_;clear hK K;have e3:Ext wr cx:=Fr.low (M:=λb=>wr.heap.size<=b) (((e1.trans e2).mono λ_ h=>h.elim).trans (f1.mono λb O=>ab)) λ_ h=>h;have F:Ext wr cx/\Gr (λ_=>False) cR 3 1 cx ck k aZ ((l.take k).map D.i)/\an cx br.heap.size 3 #[.int .i64 n]:=⟨e3,b9,b7.on f1 ab⟩
        clear b9 ch f1 o1 e1 e2 e3 bQ b7 dB;revert F;generalize br.heap.size=bE;generalize wr.heap.size=eT;intro F;exact key eT bE ck aZ _ F
      ·
       refine fj ?_;generalize hV:World.drew (World.alloc _ _)=br;have e1:=gX hV;have b7:an br wr.heap.size 3 #[.int .i64 n]:=hV▸LM;clear hV;refine ao ?_;refine fj ?_;generalize hV:World.alloc _ _=eH;have e2:=bb hV;have ch:Gr (λ_=>False) br.heap.size 3 1 eH (some ⟨br.heap.size,0,none⟩) 0 0 []:=hV▸Gr.lit (w:=br) (n:=0) (l:=[]) rfl (by rfl) ab (by simp only[D.aJ]);have dg:=b7.aj e2;have bQ:=s4 (c4.ai λb O=>(e1.trans e2).block b (j.o b O) λh=>h);have dB:wr.heap.size<br.heap.size:=b7.lt;clear hV b7;refine ao ?_;refine aG rfl (λK hK=>?_) rfl;rw[if_pos (by rfl)];refine jr de (.tmp 24) (.tmp 27) (by rfl) ch (mX (l.take k)) (by simp;omega) bQ (λh=>by cases h) (by rfl) (by rfl) ab ab e2.size ?_;intro ck aZ cx b9 f1 o1 c1;refine ei hK (f1.mono λb O=>ab) ?_;clear hK K;have e3:Ext wr cx:=Fr.low (M:=λb=>wr.heap.size<=b) (((e1.trans e2).mono λ_ h=>h.elim).trans (f1.mono λb O=>ab)) λ_ h=>h;have F:Ext wr cx/\Gr (λ_=>False) cR 3 1 cx ck k aZ ((l.take k).map D.i)/\an cx wr.heap.size 3 #[.int .i64 n]:=⟨e3,b9.base ab,dg.on f1 ab⟩
       clear b9 ch f1 o1 e1 e2 e3 bQ dg dB;revert F;generalize br.heap.size=eT;generalize wr.heap.size=bE;intro F;exact key eT bE ck aZ _ F
     ·
      rintro eT bE ck aZ gI ⟨cF,cL,b7⟩;have fd:=cF.size;refine ao ?_;refine cj rfl (λK hK=>?_) rfl;rw[if_pos (by rfl)];refine eX de (.tmp 28) (.tmp 30) (by rfl) cL b7 (show (D.i n).rep gI _ _ from by simp only[D.rep]) (by rfl) (by rfl) (by rfl) ab ab ab ?_;intro G H gL fc f5 gF gK;have cN:Ext wr gL:=Fr.low (M:=λb=>wr.heap.size<=b) ((cF.mono λ_ h=>h.elim).trans (f5.mono λb O=>by have:=(cL.lt O).1;omega)) λ_ h=>h;clear cL b7 cF fd f5 gF gK;have dQ:=cN.size;refine eL hK ?_;clear hK K;refine ao ?_;refine cj rfl (λK hK=>?_) rfl;rw[if_pos (by rfl)];have s:∀d∈(l.drop k).map D.i,d.sz=1:=λd hd=>by obtain⟨x,_,rfl⟩:=Lz.1 hd;rfl
      refine ED (k:=(l.drop k).map D.i) (A2:=A2) de (.tmp 31) (.tmp 34) (by rfl) (fc.mono (Q:=λb=>P b) λb _ h=>h.elim) ?_ s (by rfl) (by rfl) ab ab ab ?_
      .exact((u.ai λb O=>cN.block b (j.o b O) λh=>h).mono λb O=>⟨O,by have:=j.o b O;omega,λh=>by have:=(fc.lt h).1;have:=j.o b O;omega⟩)
      intro y a7 gR t f6 o6 r;have bH:Ext wr gR:=Fr.low (M:=λb=>wr.heap.size<=b) ((cN.mono λ_ h=>h.elim).trans (f6.mono λb O=>by have:=(fc.lt O).1;omega)) λ_ h=>h;have hP:k+1+(ln - k)=ln+1:=ab;simp only[hP] at t r ⊢;refine eL hK ?_;clear hK K;refine tf ?_;refine cB ?_;clear fc f6 o6 cN dQ;have b0:=aL t r bH;clear t r bH;go_wp2_with(fail);go_ret;obtain⟨t,r,bH⟩:=b0.o;have U:=a8.size;have hS:=t.sl (Q:=λb=>P b\/fresh w gR b) (λb _ h=>.inl h) (λb ae aD=>.inr ⟨ab,ae⟩);have I:Sl gR (λb=>P b\/fresh w gR b) y (ln+1) ((l.take k++[n]++l.drop k).map .i):=by simpa only[Li,Lh,Ly] using hS
      have b4:=a8.trans bH
      first
       | exact⟨y,ln+1,a7,rfl,ab,ab,r,⟨l.take k++[n]++l.drop k,I⟩,b4⟩
       | exact⟨y,ln+1,a7,l.take k++[n]++l.drop k,rfl,ab,ab,r,I,b4⟩
theorem Hh:ca prog 71 176 (.agg #[.int .i64 0,.slice none 0 0]) 2 32:=ca.mk' Tryz.underlying71 (by kernel_rfl) rfl ab
theorem Hl:ca prog 72 22 (.slice none 0 0) 1 24:=ca.mk' Tryz.underlying72 (by kernel_rfl) rfl ab
theorem ja{w ac:World}{B:Nat}{e:TypeId}{v:Value}{n:Nat}(h:w.ownsRow B e z v n xs)(ai:∀b,v.ownBlock=some b->ac.heap[b]?=w.heap[b]?):ac.ownsRow B e z v n xs:=by
 refine⟨h.1,?_⟩;rcases h.2 with aU|⟨g,cap,cur,bD,j,aI,rest⟩
 .exact .inl aU
 .exact .inr ⟨g,cap,cur,bD,j,(ai g (by rw[bD];rfl)).trans aI,rest⟩
structure hf(u:av)(g B:Nat)(K:Nat->Prop)(w:World)(IA:LP)(n ic:Nat)(bQ:LP)(b1 bT:Nat)(cn:LP)(bW rc:Nat)(L:List hE)(ch:List Int):Prop where
 blk:an w g 74 #[.slice IA n ic,.slice bQ b1 bT,.slice cn bW rc]
 ins:Gr (λb=>b≠g/\(Value.slice bQ b1 bT).ownBlock≠some b/\¬K b) B 176 2 w IA n ic (L.map fv)
 ok:∀x∈L,mg u x
 Hn:∃xs,w.ownsRow B 22 1 (.slice bQ b1 bT) b1 xs
 HJ:Sl w (λb=>b<w.heap.size/\b≠g/\(Value.slice IA n ic).ownBlock≠some b/\(Value.slice bQ b1 bT).ownBlock≠some b/\¬K b) cn bW (ch.map .i)
 wU:0<bW
 y8:bW<=rc
 ig:∀b,(Value.slice IA n ic).ownBlock=some b->b≠g/\(Value.slice bQ b1 bT).ownBlock≠some b/\¬K b
 cg:∀b,(Value.slice bQ b1 bT).ownBlock=some b->b≠g/\¬K b
 kg:¬K g
 kl:∀b,K b->b<w.heap.size
section
variable {u:av} {g B:Nat} {K:Nat->Prop} {w ac:World} {IA bQ cn a Y d:LP} {n ic b1 bT bW rc ci af c f:Nat} {L:List hE} {ch i:List Int}
theorem hf.cl(h:hf u g B K w IA n ic bQ b1 bT cn bW rc L ch):∀b,(Value.slice bQ b1 bT).ownBlock=some b->B<=b/\b<w.heap.size:=λb O=>by
 obtain⟨xs,hx⟩:=h.Hn;exact hx.lt b O
theorem hf.on(h:hf u g B K w IA n ic bQ b1 bT cn bW rc L ch)(O:Fr K w ac):hf u g B K ac IA n ic bQ b1 bT cn bW rc L ch:=by
 refine⟨h.blk.on O h.kg,h.ins.c7 O.size λb aw hp=>O.block b aw ?_,h.ok,?_,(h.HJ.ai λb hp=>O.block b hp.1 hp.2.2.2.2).mono λb hp=>⟨Lc hp.1 O.size,hp.2⟩,h.wU,h.y8,h.ig,h.cg,h.kg,λb ai=>Lc (h.kl b ai) O.size⟩
 .rcases hp with hp|hp
  .exact hp.2.2
  .exact(h.ig b hp).2.2
 .obtain⟨xs,hx⟩:=h.Hn;exact⟨xs,ja hx λb hp=>O.block b (hx.lt b hp).2 (h.cg b hp).2⟩
theorem hf.apart(h:hf u g B K w IA n ic bQ b1 bT cn bW rc L ch)(O:Ext w ac)(ai:w.heap.size<=k)(co:k<ac.heap.size):hf u g B (λb=>b=k) ac IA n ic bQ b1 bT cn bW rc L ch:=by
 have ae:=h.on (O.mono λ_ h=>h.elim);have m:=h.blk.lt;refine⟨ae.blk,(h.ins.mono λb aw hp=>⟨hp.1,hp.2.1,ab⟩).aj O,h.ok,ae.Hn,
  (h.HJ.ai λb hp=>O.block b hp.1 λh=>h).mono λb hp=>⟨Lc hp.1 O.size,hp.2.1,hp.2.2.1,hp.2.2.2.1,by have:=hp.1;omega⟩,
  h.wU,h.y8,λb hp=>⟨(h.ig b hp).1,(h.ig b hp).2.1,?_⟩,λb hp=>⟨(h.cg b hp).1,?_⟩,ab,λb O=>ab⟩
 .have:=(h.ins.lt hp).2;omega
 .have:=(h.cl b hp).2;omega
theorem hf.free(h:hf u g B K w IA n ic bQ b1 bT cn bW rc L ch):hf u g B (λ_=>False) w IA n ic bQ b1 bT cn bW rc L ch:=
 ⟨h.blk,h.ins.mono λb _ hp=>⟨hp.1,hp.2.1,λh=>h⟩,h.ok,h.Hn,h.HJ.mono λb hp=>⟨hp.1,hp.2.1,hp.2.2.1,hp.2.2.2.1,λh=>h⟩,h.wU,h.y8,λb hp=>⟨(h.ig b hp).1,(h.ig b hp).2.1,λh=>h⟩,λb hp=>⟨(h.cg b hp).1,λh=>h⟩,λh=>h,λ_ h=>h.elim⟩
theorem hf.Ji(h:hf u g B K w IA n ic bQ b1 bT cn bW rc L ch){x:hE}(hx:mg u x)
  (aK:Gr (λb=>b≠g/\(Value.slice bQ b1 bT).ownBlock≠some b/\¬K b) B 176 2 ac a (n+1) ci (L.map fv++[fv x])) (J:Fr (λb=>(Value.slice IA n ic).ownBlock=some b) w ac) (bl:dp w IA n ic a (n+1) ci) :
  hf u g B K (ac.setCell ⟨g,0,none⟩ (.slice a (n+1) ci)) a (n+1) ci bQ b1 bT cn bW rc (L++[x]) ch:=by
 have m:=h.blk.lt;have hs:=J.size;have dA:∀b,(Value.slice a (n+1) ci).ownBlock=some b->b≠g/\(Value.slice bQ b1 bT).ownBlock≠some b/\¬K b:=λb hp=>by
  rcases bl b hp with ae|ae
  .exact h.ig b ae
  .exact⟨ab,λhc=>by have:=(h.cl b hc).2;omega,λai=>by have:=h.kl b ai;omega⟩
 have a5:Fr (λb=>b=g) ac (ac.setCell ⟨g,0,none⟩ (.slice a (n+1) ci)):=(Fr.refl (λb=>b=g) ac).setCell (.inl rfl) _;refine⟨(h.blk.on J λO=>(h.ig g O).1 rfl).aD 0 _,?_,?_,?_,?_,h.wU,h.y8,dA,h.cg,h.kg,λb ai=>by have:=h.kl b ai;simp;omega⟩
 .rw[Li,Lh,Ly];exact aK.c7 a5.size λb aw hp=>a5.block b aw λO=>by
   subst O;rcases hp with hp|hp
   .exact hp.1 rfl
   .exact(dA b hp).1 rfl
 .intro y a4;rcases Lk.1 a4 with a4|a4
  .exact h.ok y a4
  .simp at a4;subst a4;exact hx
 .obtain⟨xs,hx⟩:=h.Hn;exact⟨xs,ja hx λb hp=>(a5.block b (by have:=(hx.lt b hp).2;omega) (h.cg b hp).1).trans (J.block b (hx.lt b hp).2 λO=>(h.ig b O).2.1 hp)⟩
 .refine(h.HJ.ai λb hp=>(a5.block b (aC hp.1) hp.2.1).trans (J.block b hp.1 hp.2.2.1)).mono λb hp=>⟨by have:=hp.1;simp;omega,hp.2.1,λO=>?_,hp.2.2.2⟩
  rcases bl b O with ae|ae
  .exact hp.2.2.1 ae
  .have:=hp.1;omega
theorem hf.Jh(h:hf u g B K w IA n ic bQ b1 bT cn bW rc L ch)(aK:ac.ownsRow B 22 1 (.slice Y (b1+1) af) (b1+1) xs)(J:Fr (λb=>(Value.slice bQ b1 bT).ownBlock=some b) w ac)(bl:dp w bQ b1 bT Y (b1+1) af):
  hf u g B K (ac.setCell ⟨g,1,none⟩ (.slice Y (b1+1) af)) IA n ic Y (b1+1) af cn bW rc L ch:=by
 have m:=h.blk.lt;have hs:=J.size;have e:∀b,(Value.slice Y (b1+1) af).ownBlock=some b->b≠g/\¬K b:=λb hp=>by
  rcases bl b hp with ae|ae
  .exact h.cg b ae
  .exact⟨ab,λai=>by have:=h.kl b ai;omega⟩
 have a5:Fr (λb=>b=g) ac (ac.setCell ⟨g,1,none⟩ (.slice Y (b1+1) af)):=(Fr.refl (λb=>b=g) ac).setCell (.inl rfl) _;refine⟨(h.blk.on J λO=>(h.cg g O).1 rfl).aD 1 _,?_,h.ok,?_,?_,h.wU,h.y8,λb hp=>⟨(h.ig b hp).1,λO=>?_,(h.ig b hp).2.2⟩,e,h.kg,λb ai=>by have:=h.kl b ai;simp;omega⟩
 .have ae:Gr (λb=>b≠g/\(Value.slice Y (b1+1) af).ownBlock≠some b/\¬K b/\(Value.slice bQ b1 bT).ownBlock≠some b) B 176 2 w IA n ic (L.map fv):=h.ins.mono λb aw hp=>⟨hp.1,λO=>by
   rcases bl b O with ae|ae
   .exact hp.2.1 ae
   .omega,hp.2.2,hp.2.1⟩
  have aD:=ae.c7 (ac:=ac.setCell ⟨g,1,none⟩ (.slice Y (b1+1) af)) (by simp;omega) λb aw hp=>(a5.block b ab (by
    rcases hp with hp|hp
    .exact hp.1
    .exact(h.ig b hp).1)).trans (J.block b aw (by
    rcases hp with hp|hp
    .exact hp.2.2.2
    .exact(h.ig b hp).2.1))
  exact aD.mono λb _ hp=>⟨hp.1,hp.2.1,hp.2.2.1⟩
 .exact⟨xs,ja aK λb hp=>a5.block b (aK.lt b hp).2 (e b hp).1⟩
 .refine(h.HJ.ai λb hp=>(a5.block b (aC hp.1) hp.2.1).trans (J.block b hp.1 hp.2.2.2.1)).mono λb hp=>⟨by have:=hp.1;simp;omega,hp.2.1,hp.2.2.1,λO=>?_,hp.2.2.2.2⟩
  rcases bl b O with ae|ae
  .exact hp.2.2.2.1 ae
  .have:=hp.1;omega
 .rcases bl b O with ae|ae
  .exact(h.ig b hp).2.1 ae
  .have:=(h.ins.lt hp).2;omega
theorem hf.JQ(h:hf u g B K w IA n ic bQ b1 bT cn bW rc L ch)(aY:P=λb=>b<w.heap.size/\b≠g/\(Value.slice IA n ic).ownBlock≠some b/\(Value.slice bQ b1 bT).ownBlock≠some b/\¬K b)
  (aQ:Sl ac (λb=>P b\/fresh w ac b) d c (i.map .i)) (aE:Ext w ac) (h0:0<c) (hc:c<=f) :
  hf u g B K (ac.setCell ⟨g,2,none⟩ (.slice d c f)) IA n ic bQ b1 bT d c f L i:=by
 subst aY;have m:=h.blk.lt;have hs:=aE.size;have ae:=h.on (aE.mono λ_ h=>h.elim);have a5:Fr (λb=>b=g) ac (ac.setCell ⟨g,2,none⟩ (.slice d c f)):=(Fr.refl (λb=>b=g) ac).setCell (.inl rfl) _;refine⟨ae.blk.aD 2 _,ae.ins.c7 a5.size λb aw hp=>a5.block b aw ?_,h.ok,?_,?_,h0,hc,h.ig,h.cg,h.kg,λb ai=>by have:=h.kl b ai;simp;omega⟩
 .rcases hp with hp|hp
  .exact hp.1
  .exact(h.ig b hp).1
 .obtain⟨xs,hx⟩:=ae.Hn;exact⟨xs,ja hx λb hp=>a5.block b (hx.lt b hp).2 (h.cg b hp).1⟩
 .have br:∀b,((b<w.heap.size/\b≠g/\(Value.slice IA n ic).ownBlock≠some b/\(Value.slice bQ b1 bT).ownBlock≠some b/\¬K b)\/fresh w ac b)->(b<ac.heap.size/\b≠g/\(Value.slice IA n ic).ownBlock≠some b/\(Value.slice bQ b1 bT).ownBlock≠some b/\¬K b):=λb hp=>by
   rcases hp with hp|hp
   .exact⟨by have:=hp.1;omega,hp.2⟩
   .have ae:=hp.1;exact⟨hp.2,ab,λO=>by have:=(h.ins.lt O).2;omega,λO=>by have:=(h.cl b O).2;omega,λai=>by have:=h.kl b ai;omega⟩
  exact((aQ.mono br).ai λb hp=>a5.block b hp.1 hp.2.1).mono λb hp=>⟨by have:=hp.1;simp;omega,hp.2⟩
end
end Go.Proofs.YtflecliffjbleaaGreat
