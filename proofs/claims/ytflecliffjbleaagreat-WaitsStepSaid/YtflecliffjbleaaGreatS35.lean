/- Part 35 of the proof. No condition of its own. -/
import Derived.Test.YtflecliffjbleaaGreatS29
namespace Go.Proofs.YtflecliffjbleaaGreat
open Go.RowKit Go.Proofs.Tryz
set_option maxRecDepth 1000000
set_option maxHeartbeats 25600000
set_option linter.unusedVariables false
variable{xs:List Value}{k z:Nat}{P:Nat->Prop}
theorem Hu{w X V:World}{g:Nat}{t:TypeId}{v0 v1 c0 c1:Value}(aS:ao V g t #[c0,c1])(aF:Ext w V)(aY:w.heap.size<=g)(hX:(V.setCell ⟨g,0,none⟩ v0).setCell ⟨g,1,none⟩ v1=X):
  ao X g t #[v0,v1]/\Ext w X/\Fr (λb=>b=g) V X:=by
 subst hX;exact⟨(aS.aJ 0 v0).aJ 1 v1,(aF.setCell (.inr aY) _).setCell (.inr aY) _,((Fr.refl (λb=>b=g) V).setCell (.inl rfl) _).setCell (.inl rfl) _⟩
theorem sW{u:aw}(hu:dg u){p:cM}(hp:p∈u.procs){c:ay}(hc:c∈p.code)(bn:c.op=2\/c.op=3):
  ∃q,0<=c.target/\u.procs[c.target.toNat]?=some q/\(c.places.length:Int)=q.ax/\q.ax<=100/\∀pl∈c.places,pl.param=true->0<=pl.index/\pl.index<p.ax:=by
 obtain⟨s,hs,hl,y⟩:=(hu.procs p hp).code;rw[hs] at hc;rcases LL.1 hc with hc|hc
 .rcases y c hc with h|h|h|h|h|h
  .omega
  .obtain⟨_,_,sg,h0,k,al,bk,_,be⟩:=h;simp only[br,List.getElem?_map] at k
   cases bv:u.procs[c.target.toNat]? with
   | none=>rw[bv] at k;cases k
   | some q=>
    rw[bv] at k;injection k with k;subst k;refine⟨q,h0,rfl,bk,(hu.procs q (LF bv)).ax.2,λpl hm O=>?_⟩;have:=be pl hm;unfold cL at this;simp_all
  .omega
  .omega
  .omega
  .omega
 .simp only[Ma] at hc;subst hc;simp[nJ] at bn
namespace Dn
theorem dd{p:Prop}(h:p:=by
 clear e0 a6 aQ;generalize bR:World.setCell aW _ _=cQ;have ct:=cJ bR;have ag:ao cQ W.heap.size 176 #[.int .i64 c.target,.slice aR (j+1) a9]:=bR▸ca.2.1.aJ 1 _;clear bR;have bW:=ca.1.cS ct (λb O _=>⟨λh=>h,ad⟩);have al:=aA ag bW (ca.2.2.trans ct);clear ag bW ct;go_wp2_with(fail);go_roundw
 case rel=>
  refine⟨j+1,aR,a9,ad,by go_num,al.2.2,al.1,?_⟩;have:=al.2.1;rw[aa.o j pl P.o,<-cc.o];exact this
 case measure=>exact aE
 ):p:=h
end Dn
open Dn in
theorem pY(u:aw)(hu:dg u)(GA:Mk)(gn gc:Nat)(MA:Mk)(mn mc:Nat)(PA:Mk)(pn pc:Nat)(x:h7)(cr:Mk)(cd cC:Nat)(p:cM)(h0:0<=x.proc)(hp:u.procs[x.proc.toNat]?=some p)(b3:(x.ax.length:Int)=p.ax)
  (k:Nat) (aj:k<p.code.length) (w:World) (hU:hY w (av w) u GA gn MA mn PA pn) (hX:Sl w (av w) cr cd (x.ax.map .i)) :
  Calls prog 97 #[.agg #[.slice GA gn gc,.slice MA mn mc,.slice PA pn pc,.int .i64 u.main],.agg #[.int .i64 x.proc,.slice cr cd cC],.int .i64 k] w
   λe ab=>∃(ok:Bool) (y:h7) (cY:Mk) (c5 c6:Nat),e=.returned (.tuple #[.agg #[.int .i64 y.proc,.slice cY c5 c6],.bool ok])/\(ok=true->mh u y)/\c5<=c6/\Sl ab (fresh w ab) cY c5 (y.ax.map .i)/\Ext w ab:=by
 obtain⟨eB,dl⟩:=x;simp only at h0 hp b3 hX ⊢;obtain⟨dp,rfl⟩:=LH h0;rw[LZ] at hp;have er:u.procs.length=pn:=by rw[<-hU.p.1,LG]
 have zG:dp<pn:=by have:=(List.getElem?_eq_some_iff.1 hp).1;omega
 have gT:pn<=16:=by have:=hu.Hz;omega
 have bq:p.code.length<=201:=by
  obtain⟨s,hs,hl,_⟩:=(hu.procs p (LF hp)).code;rw[hs];simp;omega
 obtain⟨cz,bh,dy,dh,cj,aN,bC⟩:=DH hu hu hU hX hp b3 aj;clear hU hX hp b3 h0 er hu;go_enter func97,ntmps97;go_upto_region 1 with(fail);generalize bd:World.alloc _ _=W;have aF:=l3 bd;have aS:=kr bd;have bV:=iC bd;have bU:=ks bd;obtain⟨bj,bH,b9,a3⟩:=jc aF aS bV bU;obtain⟨a0,ak,af⟩:=aS.two;obtain⟨a8,am,aJ⟩:=bV.two;obtain⟨d0,aK,aO⟩:=bU.two;clear bd aF aS bV bU;obtain⟨bZ,op,dN,S,cx,br,rfl,bM,ci,p0,ai,eE,p3,p4,Z,T⟩:=(dy.on bj.o).proc zG;obtain rfl:dN=p:=by rw[cj.o] at ci;injection ci with ci;exact ci.symm
 have f2:dN.code.length=cx:=by rw[<-T.1,LG]
 have cK:k<cx:=ad;have bm:(0:Int)<=(k:Int):=ad;have b7:(k:Int)<(cx:Int):=ad;have bF:(0:Int)<=(dp:Int):=ad;have dJ:(dp:Int)<(pn:Int):=ad;obtain⟨bc,bB,c,cells,eo,en,es,EA,em,ec,QA,qm,qc,IA,i,ic,KA,m,di,rfl,cv,hc,bX,cb⟩:=T.El cK;obtain⟨R,ba⟩:=aH bX hc;have a7:=bX.cells;subst a7;have c0:=cb 0 _ rfl;have c1:=cb 1 _ rfl;have aX:=cb 11 _ rfl;have bz:=ae T;clear cb T hc ci p0 ai eE p3 f2 bX;simp only[LM] at c0;by_cases bn:c.op=2\/c.op=3
 case neg=>
  have fk:(c.op != 2)=true:=by simp;omega
  have o3:(c.op != 3)=true:=by simp;omega
  clear bn;go_wp2_with(fail);generalize cq:World.setCell _ _ _=Y;obtain⟨bD,bx,bJ⟩:=Hu a3.o bj.o ad cq;obtain⟨bp,aM,aV⟩:=bD.two;refine Mf (v:=.tuple #[.agg #[.int .i64 0,.slice none 0 0],.bool false]) (by simp[results,Tryz.results97,go_sem,bp]) rfl ?_;exact⟨false,⟨0,[]⟩,none,0,0,rfl,(λh=>by cases h),Lz _,Sl.bT _,bx⟩
 case pos=>
  obtain⟨q,N,bv,H,e9,dx⟩:=sW cz.o (LF cj.o) (LF ba.o) bn;have hm:c.places.length=m:=by have:=R.places.1;simpa using this
  have bS:=bA N bv H dx;have cp:m<=100:=ad;have eV:=ae hm;clear N bv H dx hm e9;rcases bn with bn|bn
  all_goals
   simp only[bn] at c0;clear bn;go_wp2_with(fail);generalize hV:World.alloc _ _=V;have bo:=aZ hV;have gy:ao V W.heap.size 176 #[.int .i64 c.target,.slice none 0 0]:=hV▸ao.gA _ _ _ (by simp);have dj:W.heap.size<V.heap.size:=by rw[<-hV];simp
   clear hV;obtain⟨bP,U⟩:=aH bo gy;clear a0 ak af a8 am aJ d0 aK aO bo gy;obtain⟨bQ,L⟩:∃bQ:Nat->List D,bQ=λj=>(((c.places.take j).map λpl=>if pl.param then dl.getD pl.index.toNat 0 else pl.index).map .i):=⟨_,rfl⟩
   have a2:=ae L;have bN:bQ 0=[]:=by rw[L];rfl
   have be:∀j pl,c.places[j]?=some pl->bQ (j+1)=bQ j++[.i (if pl.param then dl.getD pl.index.toNat 0 else pl.index)]:=λj pl h=>by rw[L];simp only;rw[List.take_add_one,h];simp
   obtain⟨aG,aa⟩:=aH bN be;clear L bN be
   try rw[show w.heap.size+1+1=w.heap.size+2 from rfl]
   generalize decide ((k:Int)<0)=aU;generalize decide (cx<=k)=bf;generalize (aU || bf)=bI;go_loopw [10] (λcw wr=>∃(j:Nat) (cY:Mk) (c6:Nat),j<=m/\cw=.int .i64 j/\Fr (λb=>b=W.heap.size) V wr/\ao wr W.heap.size 176 #[.int .i64 c.target,.slice cY j c6]/\Gr (λ_=>False) V.heap.size 3 1 wr cY j c6 (bQ j)) (λi _=>m - (intOf i).toNat)
   case atStart=>exact⟨0,none,0,L3 _,rfl,Mg,U.o,by rw[aG.o];exact Gr.nil _ _ _ _ _⟩
   case round=>
    obtain⟨j,cY,c6,bi,rfl,J,a5,aY⟩:=hrel;have l:Ext W wr:=Fr.low (M:=λb=>b=W.heap.size) ((Fr.mono bP.o λ_ h=>h.elim).trans J) λk aj=>ad;have bt:=(l.tG.1 bc (bB+k*12+11) cv).trans aX;obtain⟨U,z,bT,I⟩:=jc a5 l J aY;have bY:W.heap.size<wr.heap.size:=a5.lt;have bw:bc<wr.heap.size:=LC cv l.size;obtain⟨e0,a6,aQ⟩:=a5.two;obtain⟨a8,am,aJ⟩:=(b9.aj l).two;by_cases ap:j<m
    .obtain⟨c8,fk,pl,bE,b8,bs,rfl,bg,bk,hf,q1,cO,_,_⟩:=(R.places.on (Fr.ext l)).pv ap;have bl:dl.length=cd:=by have:=dh.1;simpa using this
     have dc:=(bh.procs dN (LF cj.o)).ax.2;have a4:cd<=140737488355328:=by have:=aN.o;omega
     have ah:pl.param=true->0<=pl.index/\pl.index<cd:=λO=>by
      have ac:=bS.2.2.2 pl (LF bk) O;have:=aN.o;omega
     have cI:(0:Int)<=(j:Int):=ad;have fm:(j:Int)<(m:Int):=ad;obtain⟨r,bb,P⟩:=eS a4 ah bk;clear J a5 aY l aX bl dc a4 ah bk;go_upto_region 8 with(fail);refine eK (λ_=>False) [(0,3),(1,0),(2,0),(3,3),(4,3),(5,3),(6,3),(7,0),(8,3),(9,3),(10,0),(11,1),(12,1),(13,2),(14,3),(15,2)] ?_;refine pf ?_
     iterate 2 refine ph ?_
     iterate 4 refine pf ?_
     refine ph ?_
     iterate 2 refine pf ?_
     refine ph ?_;refine aI rfl (λK hK=>?_);go_simp;obtain⟨v,bG⟩:∃v:Int,v=if pl.param then dl.getD pl.index.toNat 0 else pl.index:=⟨_,rfl⟩
     refine(zg dp cr cd cC dl pl [] (.slice bE b8 bs) wr.drew (dh.on (Fr.ext ((bj.trans z.o).drew))) r.o bb.o).mono ?_;rintro e aP ⟨he,ar⟩;rw[<-bG] at he;subst he;have cc:=ae bG;clear bG;have aL:Ext wr aP:=Fr.aF ar;refine dP hK (ar) ?_;clear hK K;refine ry ?_;refine au rfl (λK hK=>?_);rw[if_pos (by rfl)];clear ar;have a1:=aL.size;have bK:=bT.size;refine q8 cU (.tmp 60) (.tmp 71) (by rfl) (I.aj aL) (d:=.i v) (by simp only[D.rep]) (by rfl) (by rfl) (by rfl) ad ad ad ?_;intro aR a9 aW an ay b1 cf;have az:∀b,(Value.slice cY j c6).ownBlock=some b->V.heap.size<=b:=λb O=>(I.lt O).1;have n:=(U.aj aL).on ay (λO=>by have:=az _ O;omega);have aT:Fr (λb=>b=W.heap.size) V aW:=by
      have cZ:=bT.size;have bu:=ay.size;exact⟨ay.os.trans (aL.os.trans bT.os),ay.tape.trans (aL.tape.trans bT.tape),ay.output.trans (aL.output.trans bT.output),ad,
       λb O hn=>(ay.block b ad (λbn=>by have:=az _ bn;omega)).trans ((aL.block b ad λh=>h).trans (bT.block b O hn))⟩
     have ca:=aA an n aT;clear e0 a6 aQ a8 am aJ aL an ay b1 az aT hf q1 cO;obtain⟨e0,a6,aQ⟩:=n.two;clear n;refine dU hK ?_;clear hK K;refine pf ?_;exact eM
    .obtain rfl:j=m:=ad;have aD:=a3.aj l;have aq:=ae aD;obtain⟨d0,aK,aO⟩:=aD.two;clear J a5 aY l aD;go_wp2_with(fail);generalize cq:World.setCell _ _ _=Y;obtain⟨bD,bx,bJ⟩:=Hu aq.o (bj.trans z.o) ad cq;obtain⟨bp,aM,aV⟩:=bD.two;refine Mf (v:=.tuple #[.agg #[.int .i64 c.target,.slice cY j c6],.bool true]) (by simp[results,Tryz.results97,go_sem,bp]) rfl ?_;obtain⟨q1,cO,da,db⟩:=bS.o;have bO:=bj.size;have bL:=a3.lt;have cy:=I.cS bJ (λb O _=>⟨λh=>h,ad⟩);refine⟨true,⟨c.target,c.places.map λpl=>if pl.param then dl.getD pl.index.toNat 0 else pl.index⟩,cY,j,c6,rfl,λ_=>⟨q,q1,cO,by simpa using da⟩,I.cap.1,?_,bx⟩;have hS:=cy.sl (Q:=fresh w Y) (λb _ h=>h.elim) (λb ac ax=>⟨ad,ac⟩);rw[a2.o] at hS;simp only at hS;rw[LK (aB eV.o)] at hS;exact hS
theorem Sl.Jm{w:World}{b o n:Nat}{l:List D}(h:Sl w P (some ⟨b,o,none⟩) n l)(aG:∀d∈l,d.sz=z)(aj:k<=n):Sl w P (some ⟨b,o+k*z,none⟩) (n - k) (l.drop k):=by
 refine⟨by have:=h.1;simp;omega,λh0=>?_⟩;obtain⟨R,au,xs,bO,O,a9,bi⟩:=h.2 ad;injection bO with bO;injection bO with ac ax;subst ac ax;rw[<-List.take_append_drop k l] at a9;obtain⟨y,cm,rfl,bb,c⟩:=D.ke a9;have a:y.length=k*z:=by
  rw[D.hA _ _ bb,D.g5 (z:=z) (λd hd=>aG d (List.mem_of_mem_take hd)),List.length_take];have:=h.1;rw[Nat.min_eq_left ad]
 refine⟨b,o+k*z,cm,rfl,O,c,λj u hu=>?_⟩;have:=bi (k*z+j) u (by rw[List.getElem?_append_right ad,a,Nat.add_sub_cancel_left];exact hu)
 rwa [<-Nat.add_assoc] at this
theorem mY{w:World}{P:Nat->Prop}:∀l:List Int,D.aO w P (l.map D.i) (l.map (Value.int .i64))
 | []=>by simp only[L4,D.aO]
 | x::l=>by simp only[LI];exact bf.2 ⟨_,rfl,mY l⟩
theorem oC{w:World}{P:Nat->Prop}:∀(l:List Int) (xs:List Value),D.aO w P (l.map D.i) xs->xs=l.map (Value.int .i64)
 | [],xs,h=>by simpa only[L4,D.aO] using h
 | x::l,xs,h=>by
  simp only[LI] at h;obtain⟨y,rfl,ax⟩:=bf.1 h;rw[oC l y ax,LI]
theorem ta{w:World}{A:Mk}{n:Nat}{l:List Int}(h:Sl w P A n (l.map D.i)):Src w 1 A n (l.map (Value.int .i64)):=by
 obtain⟨xs,a9,hs⟩:=h.src (z:=1) (λd hd=>by obtain⟨x,_,rfl⟩:=L5.1 hd;rfl)
 rwa [oC l xs a9] at hs
theorem Fl(P:Nat->Prop)(lb lo:Nat)(ln lc:Nat)(l:List Int)(n:Int)(w:World)(hl:Sl w P (some ⟨lb,lo,none⟩) ln (l.map .i))(be:∀b,P b->b<w.heap.size)(dt:ln<=1000000)(aY:ln<=lc)(h0:0<ln) :
  Calls prog 99 #[.slice (some ⟨lb,lo,none⟩) ln lc,.int .i64 n] w
   λe ab=>∃(A:Mk) (m c:Nat) (aM:List Int),e=.returned (.slice A m c)/\0<m/\m<=ln+1/\m<=c/\Sl ab (λb=>P b\/fresh w ab b) A m (aM.map .i)/\Ext w ab:=by
 have bG:l.length=ln:=by have:=hl.1;simpa using this
 obtain⟨b2,cj⟩:=aH hl be;clear hl be;go_enter func99,ntmps99;go_wp2_with(fail);refine(y2 (some ⟨lb,lo,none⟩) ln lc l n w (b2.mono cj.o) ad).mono ?_;rintro e aP ⟨rfl,bX⟩;have aL:Ext w aP:=Fr.of bX;have bu:=ae aL;clear bX aL;generalize decide (n∈l)=q
 cases q with
 | true=>
  go_wp2_with(fail);go_ret
  exact⟨some ⟨lb,lo,none⟩,ln,lc,l,rfl,h0,ad,aY,(b2.ak λb O=>bu.block b (cj.o b O) λh=>h).mono λb O=>.inl O,bu.o⟩
 | false=>
  go_wp2_with(fail);go_loopw [5] (λcw wr=>∃k:Nat,k<=ln/\cw=.int .i64 k/\Ext w wr) (λi _=>ln - (intOf i).toNat)
  case atStart=>exact⟨0,L3 _,rfl,bu.o⟩
  case round=>
   obtain⟨k,aj,rfl,aF⟩:=hrel;have bj:=ae aF;have hS:Sl wr P (some ⟨lb,lo,none⟩) ln (l.map .i):=b2.ak λb O=>aF.block b (cj.o b O) λh=>h;have bm:(0:Int)<=(k:Int):=ad;clear aF;have f:(k<ln/\∃x,x<n/\wr.cell? ⟨lb,lo+k,none⟩=some (.int .i64 x))\/(k<ln/\∃x,¬x<n/\wr.cell? ⟨lb,lo+k,none⟩=some (.int .i64 x))\/¬k<ln:=by
    by_cases ap:k<ln
    .obtain⟨b,o,x,cs,bO,O,hm,a9,E,hc⟩:=Sl.g9 (enc:=D.i) (z:=1) hS (λ_=>rfl) ap;injection bO with bO;injection bO with ac ax;subst ac ax;have I:cs=[.int .i64 x]:=by simpa only[D.rep] using a9
     subst I;have c0:=hc 0 _ rfl;simp only[Nat.mul_one,LM] at c0;by_cases hx:x<n
     .exact .inl ⟨ap,x,hx,c0⟩
     .exact .inr (.inl ⟨ap,x,hx,c0⟩)
    .exact .inr (.inr ap)
   have bM:=ae hS;clear hS;rcases f with⟨ap,x,hx,c0⟩|f
   .have b7:(k:Int)<(ln:Int):=ad;go_wp2_with(fail);go_roundw
    case rel=>exact⟨k+1,ad,by go_num,bj.o⟩
    case measure=>exact aE
   .rcases f with⟨ap,x,hx,c0⟩|ap
    all_goals
     have b7:(k:Int)<=(ln:Int):=ad;go_upto_region 6 with(fail);have bV:k<=lc:=ad;obtain⟨cN,dw⟩:∃N,N=wr.heap.size:=⟨_,rfl⟩
     refine tw (λb=>cN<=b) [7,11] (.free 1 (.free 2 (.free 3 (.free 5 (.free 8 (.free 9 (.free 10 (.pick [0,6] (λi=>bif i == 0 then .pick [4,6] (λi=>bif i == 4 then .pick [6] (λ_=>.pick [7] (λ_=>.pick [11] (λ_=>.free 12 (.stop)))) else .pick [4] (λ_=>.pick [7] (λ_=>.pick [11] (λ_=>.free 12 (.stop))))) else .pick [0] (λ_=>.pick [4] (λ_=>.pick [7] (λ_=>.pick [11] (λ_=>.free 12 (.stop)))))))))))))) ?_
     iterate 7 refine tf ?_
     generalize aX:(if lc=k then (some ⟨lb,lo,none⟩:Mk) else some ⟨lb,lo+k,none⟩)=A2;have cM:Sl wr P A2 (ln - k) ((l.drop k).map .i):=by
      rw[<-aX];split
      .have:ln - k=0:=ad;rw[this,Mc ad];exact Sl.bT _
      .have:=bM.Jm (z:=1) (λd hd=>by obtain⟨x,_,rfl⟩:=L5.1 hd;rfl) aj;rw[Nat.mul_one,<-List.map_drop] at this;exact this
     have aR:Sl wr P (some ⟨lb,lo,none⟩) k ((l.take k).map .i):=by rw[List.map_take];exact bM.take aj
     obtain⟨u,c9⟩:=aH cM aR;have v:∀b,P b->b<wr.heap.size:=λb O=>LC (cj.o b O) bj.size;have j:=ae v;clear aX cM aR v;refine iW (P:=?_) (ops:=?_) (Q:=?_) (R:=?_) (tails:=?_) (rest:=.pick [7] (λ_=>.pick [11] (λ_=>.free 12 (.stop)))) (aa:=?_)
      (C:=λ(_:Nat) b3 cD cR V=>Ext wr V/\Gr (λ_=>False) cN 3 1 V cD k cR ((l.take k).map D.i)/\ao V b3 3 #[.int .i64 n]) (λkey=>?_) ?_
     rotate_left 6
     ·
      refine a5 ?_ ?_
      ·
       refine eu ?_;generalize hV:World.drew (World.alloc _ _)=bx;have e1:=hh hV;have cT:Gr (λ_=>False) cN 3 1 bx (some ⟨wr.heap.size,0,none⟩) 0 0 []:=by rw[<-hV,dw];exact(Gr.lit (w:=wr) (n:=0) (l:=[]) rfl (by rfl) ad (by simp only[D.aO])).aj Mg.drew
       have f2:=ta (c9.ak λb O=>e1.block b (j.o b O) λh=>h);clear hV;refine a5 ?_ ?_
       ·
        refine aD rfl (λK hK=>?_) rfl;rw[if_pos (by rfl)];refine jz cU (.tmp 24) (.tmp 27) (by rfl) cT (mY (l.take k)) (by simp;omega) f2 (λh=>by cases h) (by rfl) (by rfl) ad ad (by rw[dw];exact e1.size) ?_;intro cD cR cL ce f1 o1 c1;refine dP hK (f1.mono λb O=>ad) ?_;clear hK K;refine aq ?_;refine eu ?_;have e2:Ext wr cL:=Fr.low (M:=λb=>wr.heap.size<=b) ((e1.mono λ_ h=>h.elim).trans (f1.mono λb O=>ad)) λ_ h=>h;have F:Ext wr (cL.alloc (.cells #[.int .i64 n] 3))/\Gr (λ_=>False) cN 3 1 (cL.alloc (.cells #[.int .i64 n] 3)) cD k cR ((l.take k).map D.i)/\ao (cL.alloc (.cells #[.int .i64 n] 3)) cL.heap.size 3 #[.int .i64 n]:=
         ⟨e2.alloc _,ce.aj (Mg.alloc _),Mh⟩
        clear ce cT f1 o1 e1 e2 f2;revert F;generalize cL.heap.size=b3;generalize wr.heap.size=eW;intro F;exact key eW b3 cD cR _ F
       ·
        refine eu ?_;generalize hV:World.alloc _ _=eJ;have e2:=aZ hV;have cb:ao eJ bx.heap.size 3 #[.int .i64 n]:=hV▸Mh;have bD:=ta (c9.ak λb O=>(e1.trans e2).block b (j.o b O) λh=>h);clear hV f2;have dF:wr.heap.size<bx.heap.size:=(cT.lt (g:=wr.heap.size) rfl).2;refine aq ?_;refine aD rfl (λK hK=>?_) rfl;rw[if_pos (by rfl)];refine jz cU (.tmp 24) (.tmp 27) (by rfl) (cT.aj e2) (mY (l.take k)) (by simp;omega) bD (λh=>by cases h) (by rfl) (by rfl) ad ad (by rw[dw];exact(e1.trans e2).size) ?_;intro cD cR cL ce f1 o1 c1;refine dP hK (f1.mono λb O=>ad) ?_;clear hK K;have e3:Ext wr cL:=Fr.low (M:=λb=>wr.heap.size<=b) (((e1.trans e2).mono λ_ h=>h.elim).trans (f1.mono λb O=>ad)) λ_ h=>h;have F:Ext wr cL/\Gr (λ_=>False) cN 3 1 cL cD k cR ((l.take k).map D.i)/\ao cL bx.heap.size 3 #[.int .i64 n]:=⟨e3,ce,cb.on f1 ad⟩
        clear ce cT f1 o1 e1 e2 e3 bD cb dF;revert F;generalize bx.heap.size=b3;generalize wr.heap.size=eW;intro F;exact key eW b3 cD cR _ F
      ·
       refine eu ?_;generalize hV:World.drew (World.alloc _ _)=bx;have e1:=hh hV;have cb:ao bx wr.heap.size 3 #[.int .i64 n]:=hV▸Mh;clear hV;refine aq ?_;refine eu ?_;generalize hV:World.alloc _ _=eJ;have e2:=aZ hV;have cT:Gr (λ_=>False) bx.heap.size 3 1 eJ (some ⟨bx.heap.size,0,none⟩) 0 0 []:=hV▸Gr.lit (w:=bx) (n:=0) (l:=[]) rfl (by rfl) ad (by simp only[D.aO]);have dk:=cb.aj e2;have bD:=ta (c9.ak λb O=>(e1.trans e2).block b (j.o b O) λh=>h);have dF:wr.heap.size<bx.heap.size:=cb.lt;clear hV cb;refine aq ?_;refine aD rfl (λK hK=>?_) rfl;rw[if_pos (by rfl)];refine jz cU (.tmp 24) (.tmp 27) (by rfl) cT (mY (l.take k)) (by simp;omega) bD (λh=>by cases h) (by rfl) (by rfl) ad ad e2.size ?_;intro cD cR cL ce f1 o1 c1;refine dP hK (f1.mono λb O=>ad) ?_;clear hK K;have e3:Ext wr cL:=Fr.low (M:=λb=>wr.heap.size<=b) (((e1.trans e2).mono λ_ h=>h.elim).trans (f1.mono λb O=>ad)) λ_ h=>h;have F:Ext wr cL/\Gr (λ_=>False) cN 3 1 cL cD k cR ((l.take k).map D.i)/\ao cL wr.heap.size 3 #[.int .i64 n]:=⟨e3,ce.base ad,dk.on f1 ad⟩
       clear ce cT f1 o1 e1 e2 e3 bD dk dF;revert F;generalize bx.heap.size=eW;generalize wr.heap.size=b3;intro F;exact key eW b3 cD cR _ F
     ·
      rintro eW b3 cD cR gK ⟨bH,cZ,cb⟩;have ff:=bH.size;refine aq ?_;refine bN rfl (λK hK=>?_) rfl;rw[if_pos (by rfl)];refine fm cU (.tmp 28) (.tmp 30) (by rfl) cZ cb (show (D.i n).rep gK _ _ from by simp only[D.rep]) (by rfl) (by rfl) (by rfl) ad ad ad ?_;intro G H fn fe f5 gF gM;have cq:Ext wr fn:=Fr.low (M:=λb=>wr.heap.size<=b) ((bH.mono λ_ h=>h.elim).trans (f5.mono λb O=>by have:=(cZ.lt O).1;omega)) λ_ h=>h;clear cZ cb bH ff f5 gF gM;have dX:=cq.size;refine dU hK ?_;clear hK K;refine aq ?_;refine bN rfl (λK hK=>?_) rfl;rw[if_pos (by rfl)];have s:∀d∈(l.drop k).map D.i,d.sz=1:=λd hd=>by obtain⟨x,_,rfl⟩:=L5.1 hd;rfl
      refine Fo (k:=(l.drop k).map D.i) (A2:=A2) cU (.tmp 31) (.tmp 34) (by rfl) (fe.mono (Q:=λb=>P b) λb _ h=>h.elim) ?_ s (by rfl) (by rfl) ad ad ad ?_
      .exact((u.ak λb O=>cq.block b (j.o b O) λh=>h).mono λb O=>⟨O,by have:=j.o b O;omega,λh=>by have:=(fe.lt h).1;have:=j.o b O;omega⟩)
      intro y b0 gX t f6 o6 r;have cu:Ext wr gX:=Fr.low (M:=λb=>wr.heap.size<=b) ((cq.mono λ_ h=>h.elim).trans (f6.mono λb O=>by have:=(fe.lt O).1;omega)) λ_ h=>h;have ia:k+1+(ln - k)=ln+1:=ad;simp only[ia] at t r ⊢;refine dU hK ?_;clear hK K;refine tf ?_;refine ck ?_;clear fe f6 o6 cq dX;have bT:=aA t r cu;clear t r cu;go_wp2_with(fail);go_ret;obtain⟨t,r,cu⟩:=bT.o;have U:=bj.size;have hS:=t.sl (Q:=λb=>P b\/fresh w gX b) (λb _ h=>.inl h) (λb ac ax=>.inr ⟨ad,ac⟩);have J:Sl gX (λb=>P b\/fresh w gX b) y (ln+1) ((l.take k++[n]++l.drop k).map .i):=by simpa only[LJ,LI,L4] using hS
      have bb:=bj.trans cu
      first
       | exact⟨y,ln+1,b0,rfl,ad,ad,r,⟨l.take k++[n]++l.drop k,J⟩,bb⟩
       | exact⟨y,ln+1,b0,l.take k++[n]++l.drop k,rfl,ad,ad,r,J,bb⟩
theorem HZ:cm prog 71 176 (.agg #[.int .i64 0,.slice none 0 0]) 2 32:=cm.mk' Tryz.underlying71 (by kernel_rfl) rfl ad
theorem H4:cm prog 72 22 (.slice none 0 0) 1 24:=cm.mk' Tryz.underlying72 (by kernel_rfl) rfl ad
theorem jl{w ab:World}{B:Nat}{e:TypeId}{v:Value}{n:Nat}(h:w.ownsRow B e z v n xs)(aj:∀b,v.ownBlock=some b->ab.heap[b]?=w.heap[b]?):ab.ownsRow B e z v n xs:=by
 refine⟨h.1,?_⟩;rcases h.2 with a1|⟨g,cap,cur,bG,j,aT,rest⟩
 .exact .inl a1
 .exact .inr ⟨g,cap,cur,bG,j,(aj g (by rw[bG];rfl)).trans aT,rest⟩
structure hL(u:aw)(g B:Nat)(K:Nat->Prop)(w:World)(IA:Mk)(n ic:Nat)(S:Mk)(cx br:Nat)(cc:Mk)(bZ rc:Nat)(L:List h7)(cB:List Int):Prop where
 blk:ao w g 74 #[.slice IA n ic,.slice S cx br,.slice cc bZ rc]
 ins:Gr (λb=>b≠g/\(Value.slice S cx br).ownBlock≠some b/\¬K b) B 176 2 w IA n ic (L.map fM)
 ok:∀x∈L,mh u x
 H6:∃xs,w.ownsRow B 22 1 (.slice S cx br) cx xs
 Iu:Sl w (λb=>b<w.heap.size/\b≠g/\(Value.slice IA n ic).ownBlock≠some b/\(Value.slice S cx br).ownBlock≠some b/\¬K b) cc bZ (cB.map .i)
 w5:0<bZ
 zq:bZ<=rc
 ig:∀b,(Value.slice IA n ic).ownBlock=some b->b≠g/\(Value.slice S cx br).ownBlock≠some b/\¬K b
 cg:∀b,(Value.slice S cx br).ownBlock=some b->b≠g/\¬K b
 kg:¬K g
 kl:∀b,K b->b<w.heap.size
section
variable {u:aw} {g B:Nat} {K:Nat->Prop} {w ab:World} {IA S cc E Y c:Mk} {n ic cx br bZ rc cR ag a d:Nat} {L:List h7} {cB f:List Int}
theorem hL.cl(h:hL u g B K w IA n ic S cx br cc bZ rc L cB):∀b,(Value.slice S cx br).ownBlock=some b->B<=b/\b<w.heap.size:=λb O=>by
 obtain⟨xs,hx⟩:=h.H6;exact hx.lt b O
theorem hL.on(h:hL u g B K w IA n ic S cx br cc bZ rc L cB)(O:Fr K w ab):hL u g B K ab IA n ic S cx br cc bZ rc L cB:=by
 refine⟨h.blk.on O h.kg,h.ins.dh O.size λb ap hp=>O.block b ap ?_,h.ok,?_,(h.Iu.ak λb hp=>O.block b hp.1 hp.2.2.2.2).mono λb hp=>⟨LC hp.1 O.size,hp.2⟩,h.w5,h.zq,h.ig,h.cg,h.kg,λb aj=>LC (h.kl b aj) O.size⟩
 .rcases hp with hp|hp
  .exact hp.2.2
  .exact(h.ig b hp).2.2
 .obtain⟨xs,hx⟩:=h.H6;exact⟨xs,jl hx λb hp=>O.block b (hx.lt b hp).2 (h.cg b hp).2⟩
theorem hL.apart(h:hL u g B K w IA n ic S cx br cc bZ rc L cB)(O:Ext w ab)(aj:w.heap.size<=k)(cK:k<ab.heap.size):hL u g B (λb=>b=k) ab IA n ic S cx br cc bZ rc L cB:=by
 have ac:=h.on (O.mono λ_ h=>h.elim);have m:=h.blk.lt;refine⟨ac.blk,(h.ins.mono λb ap hp=>⟨hp.1,hp.2.1,ad⟩).aj O,h.ok,ac.H6,
  (h.Iu.ak λb hp=>O.block b hp.1 λh=>h).mono λb hp=>⟨LC hp.1 O.size,hp.2.1,hp.2.2.1,hp.2.2.2.1,by have:=hp.1;omega⟩,
  h.w5,h.zq,λb hp=>⟨(h.ig b hp).1,(h.ig b hp).2.1,?_⟩,λb hp=>⟨(h.cg b hp).1,?_⟩,ad,λb O=>ad⟩
 .have:=(h.ins.lt hp).2;omega
 .have:=(h.cl b hp).2;omega
theorem hL.free(h:hL u g B K w IA n ic S cx br cc bZ rc L cB):hL u g B (λ_=>False) w IA n ic S cx br cc bZ rc L cB:=
 ⟨h.blk,h.ins.mono λb _ hp=>⟨hp.1,hp.2.1,λh=>h⟩,h.ok,h.H6,h.Iu.mono λb hp=>⟨hp.1,hp.2.1,hp.2.2.1,hp.2.2.2.1,λh=>h⟩,h.w5,h.zq,λb hp=>⟨(h.ig b hp).1,(h.ig b hp).2.1,λh=>h⟩,λb hp=>⟨(h.cg b hp).1,λh=>h⟩,λh=>h,λ_ h=>h.elim⟩
theorem hL.JT(h:hL u g B K w IA n ic S cx br cc bZ rc L cB){x:h7}(hx:mh u x)
  (aY:Gr (λb=>b≠g/\(Value.slice S cx br).ownBlock≠some b/\¬K b) B 176 2 ab E (n+1) cR (L.map fM++[fM x])) (J:Fr (λb=>(Value.slice IA n ic).ownBlock=some b) w ab) (bn:dx w IA n ic E (n+1) cR) :
  hL u g B K (ab.setCell ⟨g,0,none⟩ (.slice E (n+1) cR)) E (n+1) cR S cx br cc bZ rc (L++[x]) cB:=by
 have m:=h.blk.lt;have hs:=J.size;have dD:∀b,(Value.slice E (n+1) cR).ownBlock=some b->b≠g/\(Value.slice S cx br).ownBlock≠some b/\¬K b:=λb hp=>by
  rcases bn b hp with ac|ac
  .exact h.ig b ac
  .exact⟨ad,λhc=>by have:=(h.cl b hc).2;omega,λaj=>by have:=h.kl b aj;omega⟩
 have bu:Fr (λb=>b=g) ab (ab.setCell ⟨g,0,none⟩ (.slice E (n+1) cR)):=(Fr.refl (λb=>b=g) ab).setCell (.inl rfl) _;refine⟨(h.blk.on J λO=>(h.ig g O).1 rfl).aJ 0 _,?_,?_,?_,?_,h.w5,h.zq,dD,h.cg,h.kg,λb aj=>by have:=h.kl b aj;simp;omega⟩
 .rw[LJ,LI,L4];exact aY.dh bu.size λb ap hp=>bu.block b ap λO=>by
   subst O;rcases hp with hp|hp
   .exact hp.1 rfl
   .exact(dD b hp).1 rfl
 .intro y bb;rcases LL.1 bb with bb|bb
  .exact h.ok y bb
  .simp at bb;subst bb;exact hx
 .obtain⟨xs,hx⟩:=h.H6;exact⟨xs,jl hx λb hp=>(bu.block b (by have:=(hx.lt b hp).2;omega) (h.cg b hp).1).trans (J.block b (hx.lt b hp).2 λO=>(h.ig b O).2.1 hp)⟩
 .refine(h.Iu.ak λb hp=>(bu.block b (aB hp.1) hp.2.1).trans (J.block b hp.1 hp.2.2.1)).mono λb hp=>⟨by have:=hp.1;simp;omega,hp.2.1,λO=>?_,hp.2.2.2⟩
  rcases bn b O with ac|ac
  .exact hp.2.2.1 ac
  .have:=hp.1;omega
theorem hL.JS(h:hL u g B K w IA n ic S cx br cc bZ rc L cB)(aY:ab.ownsRow B 22 1 (.slice Y (cx+1) ag) (cx+1) xs)(J:Fr (λb=>(Value.slice S cx br).ownBlock=some b) w ab)(bn:dx w S cx br Y (cx+1) ag):
  hL u g B K (ab.setCell ⟨g,1,none⟩ (.slice Y (cx+1) ag)) IA n ic Y (cx+1) ag cc bZ rc L cB:=by
 have m:=h.blk.lt;have hs:=J.size;have e:∀b,(Value.slice Y (cx+1) ag).ownBlock=some b->b≠g/\¬K b:=λb hp=>by
  rcases bn b hp with ac|ac
  .exact h.cg b ac
  .exact⟨ad,λaj=>by have:=h.kl b aj;omega⟩
 have bu:Fr (λb=>b=g) ab (ab.setCell ⟨g,1,none⟩ (.slice Y (cx+1) ag)):=(Fr.refl (λb=>b=g) ab).setCell (.inl rfl) _;refine⟨(h.blk.on J λO=>(h.cg g O).1 rfl).aJ 1 _,?_,h.ok,?_,?_,h.w5,h.zq,λb hp=>⟨(h.ig b hp).1,λO=>?_,(h.ig b hp).2.2⟩,e,h.kg,λb aj=>by have:=h.kl b aj;simp;omega⟩
 .have ac:Gr (λb=>b≠g/\(Value.slice Y (cx+1) ag).ownBlock≠some b/\¬K b/\(Value.slice S cx br).ownBlock≠some b) B 176 2 w IA n ic (L.map fM):=h.ins.mono λb ap hp=>⟨hp.1,λO=>by
   rcases bn b O with ac|ac
   .exact hp.2.1 ac
   .omega,hp.2.2,hp.2.1⟩
  have ax:=ac.dh (ab:=ab.setCell ⟨g,1,none⟩ (.slice Y (cx+1) ag)) (by simp;omega) λb ap hp=>(bu.block b ad (by
    rcases hp with hp|hp
    .exact hp.1
    .exact(h.ig b hp).1)).trans (J.block b ap (by
    rcases hp with hp|hp
    .exact hp.2.2.2
    .exact(h.ig b hp).2.1))
  exact ax.mono λb _ hp=>⟨hp.1,hp.2.1,hp.2.2.1⟩
 .exact⟨xs,jl aY λb hp=>bu.block b (aY.lt b hp).2 (e b hp).1⟩
 .refine(h.Iu.ak λb hp=>(bu.block b (aB hp.1) hp.2.1).trans (J.block b hp.1 hp.2.2.2.1)).mono λb hp=>⟨by have:=hp.1;simp;omega,hp.2.1,hp.2.2.1,λO=>?_,hp.2.2.2.2⟩
  rcases bn b O with ac|ac
  .exact hp.2.2.2.1 ac
  .have:=hp.1;omega
 .rcases bn b O with ac|ac
  .exact(h.ig b hp).2.1 ac
  .have:=(h.ins.lt hp).2;omega
theorem hL.Kp(h:hL u g B K w IA n ic S cx br cc bZ rc L cB)(be:P=λb=>b<w.heap.size/\b≠g/\(Value.slice IA n ic).ownBlock≠some b/\(Value.slice S cx br).ownBlock≠some b/\¬K b)
  (a9:Sl ab (λb=>P b\/fresh w ab b) c a (f.map .i)) (aF:Ext w ab) (h0:0<a) (hc:a<=d) :
  hL u g B K (ab.setCell ⟨g,2,none⟩ (.slice c a d)) IA n ic S cx br c a d L f:=by
 subst be;have m:=h.blk.lt;have hs:=aF.size;have ac:=h.on (aF.mono λ_ h=>h.elim);have bu:Fr (λb=>b=g) ab (ab.setCell ⟨g,2,none⟩ (.slice c a d)):=(Fr.refl (λb=>b=g) ab).setCell (.inl rfl) _;refine⟨ac.blk.aJ 2 _,ac.ins.dh bu.size λb ap hp=>bu.block b ap ?_,h.ok,?_,?_,h0,hc,h.ig,h.cg,h.kg,λb aj=>by have:=h.kl b aj;simp;omega⟩
 .rcases hp with hp|hp
  .exact hp.1
  .exact(h.ig b hp).1
 .obtain⟨xs,hx⟩:=ac.H6;exact⟨xs,jl hx λb hp=>bu.block b (hx.lt b hp).2 (h.cg b hp).1⟩
 .have bv:∀b,((b<w.heap.size/\b≠g/\(Value.slice IA n ic).ownBlock≠some b/\(Value.slice S cx br).ownBlock≠some b/\¬K b)\/fresh w ab b)->(b<ab.heap.size/\b≠g/\(Value.slice IA n ic).ownBlock≠some b/\(Value.slice S cx br).ownBlock≠some b/\¬K b):=λb hp=>by
   rcases hp with hp|hp
   .exact⟨by have:=hp.1;omega,hp.2⟩
   .have ac:=hp.1;exact⟨hp.2,ad,λO=>by have:=(h.ins.lt O).2;omega,λO=>by have:=(h.cl b O).2;omega,λaj=>by have:=h.kl b aj;omega⟩
  exact((a9.mono bv).ak λb hp=>bu.block b hp.1 hp.2.1).mono λb hp=>⟨by have:=hp.1;simp;omega,hp.2⟩
end
end Go.Proofs.YtflecliffjbleaaGreat
