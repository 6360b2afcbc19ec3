/- Part 28 of the proof. No condition of its own. -/
import Derived.Test.YtkhnkojkplbioaaGreatQ16
namespace Go.Proofs.YtkhnkojkplbioaaGreat
open Go.RowKit Go.Proofs.Tryz
set_option maxRecDepth 1000000
set_option maxHeartbeats 25600000
set_option linter.unusedVariables false
variable{cs:List Value}{P:Nat->Prop}{p:Prop}{f:aK}
theorem Hn{w X V:World}{g:Nat}{t:TypeId}{v0 v1 c0 c1:Value}(aR:aq V g t #[c0,c1])(aw:Ext w V)(a9:w.heap.size<=g)(hX:(V.setCell ⟨g,0,none⟩ v0).setCell ⟨g,1,none⟩ v1=X):
  aq X g t #[v0,v1]/\Ext w X/\Fr (λb=>b=g) V X:=by
 subst hX;exact⟨(aR.aM 0 v0).aM 1 v1,(aw.setCell (.inr a9) _).setCell (.inr a9) _,((Fr.refl (λb=>b=g) V).setCell (.inl rfl) _).setCell (.inl rfl) _⟩
theorem s7{u:ay}(hu:c5 u){p:cM}(hp:p∈u.procs){c:az}(hc:c∈p.code)(bn:c.op=2\/c.op=3):
  ∃q,0<=c.target/\u.procs[c.target.toNat]?=some q/\(c.places.length:Int)=q.au/\q.au<=100/\∀pl∈c.places,pl.param=true->0<=pl.index/\pl.index<p.au:=by
 obtain⟨s,hs,hl,y⟩:=(hu.procs p hp).code;rw[hs] at hc;rcases Lt.1 hc with hc|hc
 .rcases y c hc with h|h|h|h|h|h
  .omega
  .obtain⟨_,_,sg,h0,k,an,bp,_,a1⟩:=h;simp only[bC,List.getElem?_map] at k
   cases bA:u.procs[c.target.toNat]? with
   | none=>rw[bA] at k;cases k
   | some q=>
    rw[bA] at k;injection k with k;subst k;refine⟨q,h0,rfl,bp,(hu.procs q (Ln bA)).au.2,λpl hm O=>?_⟩;have:=a1 pl hm;unfold cW at this;simp_all
  .omega
  .omega
  .omega
  .omega
 .simp only[LO] at hc;subst hc;simp[nF] at bn
namespace Dl
theorem dE(h:p:=by
 clear e0 a6 aP;generalize b6:World.setCell aU _ _=bT;have cz:=cO b6;have R:aq bT W.heap.size 172 #[.int .i64 c.target,.slice ah (j+1) aT]:=b6▸bY.2.1.aM 1 _;clear b6;have bI:=bY.1.c8 cz (λb O _=>⟨λh=>h,ad⟩);have n:=aE R bI (bY.2.2.trans cz);clear R bI cz;go_wp2_with(fail);go_roundw
 case rel=>
  refine⟨j+1,ah,aT,ad,by go_num,n.2.2,n.1,?_⟩;have:=n.2.1;rw[S.o j pl an.o,<-ce.o];exact this
 case measure=>exact aH
 ):p:=h
end Dl
open Dl in
theorem pX(u:ay)(hu:c5 u)(GA:L3)(gn gc:Nat)(MA:L3)(mn mc:Nat)(PA:L3)(pn pc:Nat)(x:hZ)(cw:L3)(cc cC:Nat)(p:cM)(h0:0<=x.proc)(hp:u.procs[x.proc.toNat]?=some p)(cn:(x.au.length:Int)=p.au)
  (k:Nat) (ap:k<p.code.length) (w:World) (hU:hA w (av w) u GA gn MA mn PA pn) (hX:Sl w (av w) cw cc (x.au.map .i)) :
  Calls prog 94 #[.agg #[.slice GA gn gc,.slice MA mn mc,.slice PA pn pc,.int .i64 u.main],.agg #[.int .i64 x.proc,.slice cw cc cC],.int .i64 k] w
   λe ab=>∃(ok:Bool) (y:hZ) (aY:L3) (cP cZ:Nat),e=.returned (.tuple #[.agg #[.int .i64 y.proc,.slice aY cP cZ],.bool ok])/\(ok=true->l8 u y)/\cP<=cZ/\Sl ab (fresh w ab) aY cP (y.au.map .i)/\Ext w ab:=by
 obtain⟨eE,du⟩:=x;simp only at h0 hp cn hX ⊢;obtain⟨dx,rfl⟩:=Lp h0;rw[LI] at hp;have ew:u.procs.length=pn:=by rw[<-hU.p.1,Lo]
 have zu:dx<pn:=by have:=(List.getElem?_eq_some_iff.1 hp).1;omega
 have gu:pn<=16:=by have:=hu.EH;omega
 have a8:p.code.length<=201:=by
  obtain⟨s,hs,hl,_⟩:=(hu.procs p (Ln hp)).code;rw[hs];simp;omega
 obtain⟨cD,ba,dF,di,cq,ag,bu⟩:=DF hu hu hU hX hp cn ap;clear hU hX hp cn h0 ew hu;go_enter func94,ntmps94;go_upto_region 1 with(fail);generalize be:World.alloc _ _=W;have aw:=lC be;have aR:=jw be;have bC:=h1 be;have bD:=jx be;obtain⟨bo,bO,bB,a4⟩:=iX aw aR bC bD;obtain⟨a0,aj,af⟩:=aR.two;obtain⟨a7,am,aF⟩:=bC.two;obtain⟨d0,aL,aM⟩:=bD.two;clear be aw aR bC bD;obtain⟨bS,op,dV,bz,cp,b3,rfl,bM,cL,p0,bf,dS,p3,p4,Z,T⟩:=(dF.on bo.o).proc zu;obtain rfl:dV=p:=by rw[cq.o] at cL;injection cL with cL;exact cL.symm
 have f2:dV.code.length=cp:=by rw[<-T.1,Lo]
 have b0:k<cp:=ad;have br:(0:Int)<=(k:Int):=ad;have cd:(k:Int)<(cp:Int):=ad;have ej:(0:Int)<=(dx:Int):=ad;have db:(dx:Int)<(pn:Int):=ad;obtain⟨bc,b4,c,cells,eo,en,es,EA,em,ec,QA,qm,qc,IA,i,ic,KA,m,cT,rfl,cv,hc,b1,ck⟩:=T.Er b0;obtain⟨P,aX⟩:=aJ b1 hc;have bL:=b1.cells;subst bL;have c0:=ck 0 _ rfl;have c1:=ck 1 _ rfl;have aI:=ck 11 _ rfl;have bs:=ae T;clear ck T hc cL p0 bf dS p3 f2 b1;simp only[Lu] at c0;by_cases bn:c.op=2\/c.op=3
 case neg=>
  have fg:(c.op != 2)=true:=by simp;omega
  have o3:(c.op != 3)=true:=by simp;omega
  clear bn;go_wp2_with(fail);generalize cu:World.setCell _ _ _=Y;obtain⟨bK,bt,bR⟩:=Hn a4.o bo.o ad cu;obtain⟨bl,aA,aO⟩:=bK.two;refine LU (v:=.tuple #[.agg #[.int .i64 0,.slice none 0 0],.bool false]) (by simp[results,Tryz.results94,go_sem,bl]) rfl ?_;exact⟨false,⟨0,[]⟩,none,0,0,rfl,(λh=>by cases h),Lk _,Sl.bR _,bt⟩
 case pos=>
  obtain⟨q,ak,bA,I,ei,dR⟩:=s7 cD.o (Ln cq.o) (Ln aX.o) bn;have hm:c.places.length=m:=by have:=P.places.1;simpa using this
  have bZ:=bJ ak bA I dR;have cH:m<=100:=ad;have cR:=ae hm;clear ak bA I dR hm ei;rcases bn with bn|bn
  all_goals
   simp only[bn] at c0;clear bn;go_wp2_with(fail);generalize hV:World.alloc _ _=V;have bm:=aW hV;have gr:aq V W.heap.size 172 #[.int .i64 c.target,.slice none 0 0]:=hV▸aq.gC _ _ _ (by simp);have dm:W.heap.size<V.heap.size:=by rw[<-hV];simp
   clear hV;obtain⟨bN,N⟩:=aJ bm gr;clear a0 aj af a7 am aF d0 aL aM bm gr;obtain⟨eQ,r⟩:∃eQ:Nat->List D,eQ=λj=>(((c.places.take j).map λpl=>if pl.param then du.getD pl.index.toNat 0 else pl.index).map .i):=⟨_,rfl⟩
   have a1:=ae r;have ao:eQ 0=[]:=by rw[r];rfl
   have aK:∀j pl,c.places[j]?=some pl->eQ (j+1)=eQ j++[.i (if pl.param then du.getD pl.index.toNat 0 else pl.index)]:=λj pl h=>by rw[r];simp only;rw[List.take_add_one,h];simp
   obtain⟨aQ,S⟩:=aJ ao aK;clear r ao aK
   try rw[show w.heap.size+1+1=w.heap.size+2 from rfl]
   generalize decide ((k:Int)<0)=ai;generalize decide (cp<=k)=a5;generalize (ai || a5)=bx;go_loopw [10] (λcy wr=>∃(j:Nat) (aY:L3) (cZ:Nat),j<=m/\cy=.int .i64 j/\Fr (λb=>b=W.heap.size) V wr/\aq wr W.heap.size 172 #[.int .i64 c.target,.slice aY j cZ]/\Gr (λ_=>False) V.heap.size 3 1 wr aY j cZ (eQ j)) (λi _=>m - (intOf i).toNat)
   case atStart=>exact⟨0,none,0,LJ _,rfl,LW,N.o,by rw[aQ.o];exact Gr.nil _ _ _ _ _⟩
   case round=>
    obtain⟨j,aY,cZ,bi,rfl,J,bd,a9⟩:=hrel;have l:Ext W wr:=Fr.low (M:=λb=>b=W.heap.size) ((Fr.mono bN.o λ_ h=>h.elim).trans J) λk ap=>ad;have bk:=(l.tM.1 bc (b4+k*12+11) cv).trans aI;obtain⟨N,L,bX,cX⟩:=iX bd l J a9;have bQ:W.heap.size<wr.heap.size:=bd.lt;have bq:bc<wr.heap.size:=Ll cv l.size;obtain⟨e0,a6,aP⟩:=bd.two;obtain⟨a7,am,aF⟩:=(bB.aj l).two;by_cases al:j<m
    .obtain⟨cg,fg,pl,bv,co,bh,rfl,bj,bp,gM,q1,cN,_,_⟩:=(P.places.on (Fr.ext l)).pq al;have bg:du.length=cc:=by have:=di.1;simpa using this
     have dk:=(ba.procs dV (Ln cq.o)).au.2;have bb:cc<=140737488355328:=by have:=ag.o;omega
     have U:pl.param=true->0<=pl.index/\pl.index<cc:=λO=>by
      have ac:=bZ.2.2.2 pl (Ln bp) O;have:=ag.o;omega
     have fa:(0:Int)<=(j:Int):=ad;have f0:(j:Int)<(m:Int):=ad;obtain⟨z,a2,an⟩:=ek bb U bp;clear J bd a9 l aI bg dk bb U bp;go_upto_region 8 with(fail);refine eC (λ_=>False) [(0,3),(1,0),(2,0),(3,3),(4,3),(5,3),(6,3),(7,0),(8,3),(9,3),(10,0),(11,1),(12,1),(13,2),(14,3),(15,2)] ?_;refine pf ?_
     iterate 2 refine ph ?_
     iterate 4 refine pf ?_
     refine ph ?_
     iterate 2 refine pf ?_
     refine ph ?_;refine aG rfl (λK hK=>?_);go_simp;obtain⟨v,bG⟩:∃v:Int,v=if pl.param then du.getD pl.index.toNat 0 else pl.index:=⟨_,rfl⟩
     refine(y8 dx cw cc cC du pl [] (.slice bv co bh) wr.drew (di.on (Fr.ext ((bo.trans L.o).drew))) z.o a2.o).mono ?_;rintro e aS ⟨he,ar⟩;rw[<-bG] at he;subst he;have ce:=ae bG;clear bG;have aN:Ext wr aS:=Fr.aF ar;refine dq hK (ar) ?_;clear hK K;refine rz ?_;refine ax rfl (λK hK=>?_);rw[if_pos (by rfl)];clear ar;have a3:=aN.size;have bE:=bX.size;refine q9 dh (.tmp 60) (.tmp 71) (by rfl) (cX.aj aN) (d:=.i v) (by simp only[D.rep]) (by rfl) (by rfl) (by rfl) ad ad ad ?_;intro ah aT aU bH az cl ca;have aB:∀b,(Value.slice aY j cZ).ownBlock=some b->V.heap.size<=b:=λb O=>(cX.lt O).1;have H:=(N.aj aN).on az (λO=>by have:=aB _ O;omega);have aZ:Fr (λb=>b=W.heap.size) V aU:=by
      have cW:=bX.size;have bw:=az.size;exact⟨az.os.trans (aN.os.trans bX.os),az.tape.trans (aN.tape.trans bX.tape),az.output.trans (aN.output.trans bX.output),ad,
       λb O hn=>(az.block b ad (λbn=>by have:=aB _ bn;omega)).trans ((aN.block b ad λh=>h).trans (bX.block b O hn))⟩
     have bY:=aE bH H aZ;clear e0 a6 aP a7 am aF aN bH az cl aB aZ gM q1 cN;obtain⟨e0,a6,aP⟩:=H.two;clear H;refine dP hK ?_;clear hK K;refine pf ?_;exact eT
    .obtain rfl:j=m:=ad;have aV:=a4.aj l;have aa:=ae aV;obtain⟨d0,aL,aM⟩:=aV.two;clear J bd a9 l aV;go_wp2_with(fail);generalize cu:World.setCell _ _ _=Y;obtain⟨bK,bt,bR⟩:=Hn aa.o (bo.trans L.o) ad cu;obtain⟨bl,aA,aO⟩:=bK.two;refine LU (v:=.tuple #[.agg #[.int .i64 c.target,.slice aY j cZ],.bool true]) (by simp[results,Tryz.results94,go_sem,bl]) rfl ?_;obtain⟨q1,cN,df,dd⟩:=bZ.o;have bP:=bo.size;have bF:=a4.lt;have cK:=cX.c8 bR (λb O _=>⟨λh=>h,ad⟩);refine⟨true,⟨c.target,c.places.map λpl=>if pl.param then du.getD pl.index.toNat 0 else pl.index⟩,aY,j,cZ,rfl,λ_=>⟨q,q1,cN,by simpa using df⟩,cX.cap.1,?_,bt⟩;have hS:=cK.sl (Q:=fresh w Y) (λb _ h=>h.elim) (λb ac au=>⟨ad,ac⟩);rw[a1.o] at hS;simp only at hS;rw[Ls (aD cR.o)] at hS;exact hS
section
variable {U:hz} {G:Env} {l:List dO} {V T:L4} {n nk:Int}
theorem Sc.fV(hS:Sc U G l V T n nk):∀(d:Nat) (x:VE),x.src V d->fV l x
 | d,.num k,h=>trivial
 | d,.g7 s,h=>by
  have F:s∈V:=by cases d<;>exact h
  obtain⟨e,he,ap⟩:=hS.vars s F
  exact⟨e,he,ap.imp (λh=>h.1) (λh=>h.1)⟩
 | d,.loc _,h=>by cases d<;>exact h.elim
 | d,.iF _,h=>by cases d<;>exact h.elim
 | 0,.un _ _,h=>h.elim
 | 0,.bin _ _ _,h=>h.elim
 | d+1,.un op x,h=>⟨h.1,Sc.fV hS d x h.2⟩
 | d+1,.bin op x y,h=>⟨h.1,Sc.fV hS d x h.2.1,Sc.fV hS d y h.2.2⟩
theorem Sc.qN(hS:Sc U G l V T n nk)(r:eS)(h:su G V r):qN U.af l r:=by
 rcases h with⟨m,hm,hn,ac,au⟩|⟨hp,an⟩
 .obtain⟨e,he,ap,h0,hu⟩:=hS.Jl m hm;rw[hn] at he;exact⟨e,he,.inr ⟨ap,m,h0,hu,λhs=>by obtain⟨x,hx,ay⟩:=ac hs;exact⟨x,hx,hS.fV 2 x ay⟩,au⟩⟩
 .obtain⟨e,he,ap,_,_⟩:=hS.EN _ hp;exact⟨e,he,.inl ⟨ap,an⟩⟩
end
def vD(F:List aK)(G:Env)(l:List dO):Prop:=∀s ps,(s,ps)∈G.funcs->∃(e:dO) (f:aK),dD l s=some e/\e.kind=3/\0<=e.n/\F[e.n.toNat]?=some f/\f.params=ps
theorem vD.app{F:List aK}{G:Env}{l:List dO}(h:vD F G l)(x:dO):vD F G (l++[x]):=λs ps hs=>by
 obtain⟨e,f,he,r⟩:=h s ps hs;exact⟨e,f,jG he,r⟩
theorem Eg{p:bP}(hp:oR p)(J:f∈p.funcs):vD p.funcs (h3 p f) (br p++dU f.params 0 0):=by
 intro s ps hs;have a5:((br p++dU f.params 0 0).map (·.name)).Nodup:=by
  rw[Lr,fS,fP];exact(hp.funcs f J).fresh
 obtain⟨g,a9,bz⟩:=LL.1 hs;injection bz with b2 bH;subst b2 bH;obtain⟨i,an⟩:=List.getElem?_of_mem a9;have:=la a5 (Lt.2 (.inl (by unfold br;exact Lt.2 (.inr (ih (·.name) 3 p.funcs 0 i g an)))));refine⟨_,g,this,rfl,by show (0:Int)<=((0+i:Nat):Int);omega,?_,rfl⟩;show p.funcs[(((0+i:Nat):Int)).toNat]?=some g
 rw[LI,LF];exact an
def jk(M:List bD)(l:List dO):List (ByteArray×Bool)->List ds->Prop
 | [],[]=>True
 | p::ps,.mx r::aV=>(p.2=true/\qN M l r)/\jk M l ps aV
 | p::ps,.ex e::aV=>(p.2=false/\fV l e)/\jk M l ps aV
 | _,_=>False
theorem Sc.jk{U:hz}{G:Env}{l:List dO}{V T:L4}{n nk:Int}(hS:Sc U G l V T n nk):∀(ps:List (ByteArray×Bool)) (aV:List ds),iR G V ps aV->jk U.af l ps aV
 | [],[],_=>trivial
 | p::ps,.mx r::aV,h=>⟨⟨h.1.1,hS.qN r h.1.2⟩,Sc.jk hS ps aV h.2⟩
 | p::ps,.ex e::aV,h=>⟨⟨h.1.1,hS.fV 2 e h.1.2⟩,Sc.jk hS ps aV h.2⟩
 | [],_::_,h=>h.elim
 | _::_,[],h=>h.elim
theorem l1{M:List bD}{l:List dO}:∀{ps:List (ByteArray×Bool)} {aV:List ds},jk M l ps aV->ps.length=aV.length
 | [],[],_=>rfl
 | _::ps,.mx _::aV,h=>by simp[l1 h.2]
 | _::ps,.ex _::aV,h=>by simp[l1 h.2]
 | [],_::_,h=>h.elim
 | _::_,[],h=>h.elim
theorem ny{M:List bD}{l:List dO}:∀{ps:List (ByteArray×Bool)} {aV:List ds},jk M l ps aV->∀{k:Nat} {q:ByteArray×Bool} {a:ds},ps[k]?=some q->aV[k]?=some a->
  (∃r,a=.mx r/\q.2=true/\qN M l r)\/(∃e,a=.ex e/\q.2=false/\fV l e)
 | [],[],_,k,q,a,h,_=>by simp at h
 | p::ps,.mx r::aV,h,0,q,a,ac,au=>by
  simp at ac au;subst ac au
  exact .inl ⟨r,rfl,h.1.1,h.1.2⟩
 | p::ps,.ex e::aV,h,0,q,a,ac,au=>by
  simp at ac au;subst ac au
  exact .inr ⟨e,rfl,h.1.1,h.1.2⟩
 | p::ps,.mx r::aV,h,k+1,q,a,ac,au=>ny h.2 (by simpa using ac) (by simpa using au)
 | p::ps,.ex e::aV,h,k+1,q,a,ac,au=>ny h.2 (by simpa using ac) (by simpa using au)
 | [],_::_,h,_,_,_,_,_=>h.elim
 | _::_,[],h,_,_,_,_,_=>h.elim
theorem h5(l:List dO)(aV:List ds)(a:ds):bW l (aV++[a])=bW l aV++bW l [a]/\cB l (aV++[a])=cB l aV++cB l [a]:=by
 induction aV with
 | nil=>exact⟨rfl,rfl⟩
 | cons x aV ao=>cases x<;>simp[bW,cB,ao.1,ao.2]
structure zD(w:World)(g:Nat)(F:List aK):Prop where
 lt:g<w.heap.size
 ex:∃A n c,n<=1000000/\w.cell? ⟨g,2,none⟩=some (.slice A n c)/\Sl w (av w) A n (F.map du)
theorem zD.on{w ab:World}{g:Nat}{F:List aK}(h:zD w g F)(O:Ext w ab):zD ab g F:=by
 exact DL
theorem k3{w:World}:(du f).rep w P cs↔∃A n c B m k,cs=[.string f.name,.slice A n c,.slice B m k]/\n<=c/\m<=k/\Sl w P A n (f.params.map dv)/\Sl w P B m (c6 f.body):=by
 unfold du;rw[bM,ct];constructor
 .rintro⟨y,rfl,h⟩;obtain⟨A,n,c,cG,rfl,hc,hs,h⟩:=aN.1 h;obtain⟨B,m,k,ch,rfl,ap,O,h⟩:=aN.1 h;rw[aP] at h;subst h;exact⟨A,n,c,B,m,k,rfl,hc,ap,hs,O⟩
 .rintro⟨A,n,c,B,m,k,rfl,hc,ap,hs,O⟩;exact⟨_,rfl,aN.2 ⟨A,n,c,_,rfl,hc,hs,aN.2 ⟨B,m,k,[],rfl,ap,O,aP.2 rfl⟩⟩⟩
theorem nD(f:aK):(du f).sz=3:=rfl
theorem rV(q:ByteArray×Bool):(dv q).sz=2:=rfl
theorem od{w:World}{q:ByteArray×Bool}:(dv q).rep w P cs↔cs=[.string q.1,.bool q.2]:=by
 unfold dv;rw[bM,ct];constructor
 .rintro⟨y,rfl,h⟩;obtain⟨ch,rfl,au⟩:=fv.1 h;rw[aP] at au;subst au;rfl
 .rintro rfl;exact⟨_,rfl,fv.2 ⟨_,rfl,aP.2 rfl⟩⟩
theorem HU:cj prog 56 55 (.agg #[.bool false,.int .i64 0,.slice none 0 0]) 3 40:=cj.mk' Tryz.underlying56 (by kernel_rfl) rfl ad
abbrev fA(op t:Int)(g:Bool)(IA:L3)(i ic:Nat)(S:L3)(k lc:Nat):Array Value:=
 #[.int .i64 op,.int .i64 t,.bool g,.int .i64 0,.int .i64 0,.string ⟨#[]⟩,.slice none 0 0,.bool false,.int .i64 0,.slice none 0 0,.slice IA i ic,.slice S k lc]
theorem D9{w:World}{r:eS}(h:(gN (.mx r)).rep w P cs):∃s A n c A2 c2,cs=[.bool true,.string s,.slice A n c,.int .i64 0,.int .i64 0,.string ⟨#[]⟩,.slice A2 0 c2]/\(kG r).rep w P [.string s,.slice A n c]:=by
 exact Hc
namespace B6
theorem vY(h:p:=by
 obtain⟨A,n,c,br,rfl,_,_,bv⟩:=aN.1 hx;rw[aP] at bv;subst bv;rw[D.bm] at bb;obtain⟨A2,cC,c2,rfl,_,_⟩:=a5.1 bb;exact⟨_,_,_,_,_,_,_,_,_,rfl,bb⟩
 ):p:=h
end B6
open B6 in
theorem D7{w:World}{e:VE}(h:(gN (.ex e)).rep w P cs):∃ce a6 rc op n s A m c,cs=[.bool false,.string ⟨#[]⟩,.slice ce a6 rc,.int .i64 op,.int .i64 n,.string s,.slice A m c]/\(bp e).rep w P [.int .i64 op,.int .i64 n,.string s,.slice A m c]:=by
 exact vX
theorem qQ{w:World}{l:List D}(h:D.aQ w P l cs):D.aQ w P (jR::l) (.int .i64 0::.int .i64 0::.string ⟨#[]⟩::.slice none 0 0::cs):=
 dH.2 ⟨[.int .i64 0,.int .i64 0,.string ⟨#[]⟩,.slice none 0 0],cs,rfl,fj.2 ⟨none,0,rfl⟩,h⟩
theorem ov{w:World}{l:List D}(h:D.aQ w P l cs):D.aQ w P (dk kh::l) (.bool false::.int .i64 0::.slice none 0 0::cs):=
 dH.2 ⟨[.bool false,.int .i64 0,.slice none 0 0],cs,rfl,dX.2 ⟨none,0,0,rfl,Lk _,Sl.bR _⟩,h⟩
theorem jB{w:World}{op t:Int}{g:Bool}{is:List VE}{ps:List bN}{IA:L3}{i ic:Nat}{S:L3}{k lc:Nat}(ac:Sl w P IA i (is.map bp))(au:Sl w P S k (ps.map dk))(c1:i<=ic)(c2:k<=lc):
  (ej ⟨op,t,g,none,kh,is,ps⟩).rep w P (fA op t g IA i ic S k lc).toList:=by
 unfold ej;rw[bM];exact bq.2 ⟨_,rfl,bq.2 ⟨_,rfl,fv.2 ⟨_,rfl,qQ (ov (aN.2 ⟨IA,i,ic,_,rfl,c1,ac,aN.2 ⟨S,k,lc,[],rfl,c2,au,aP.2 rfl⟩⟩))⟩⟩⟩
theorem v9:cj prog 62 58 (.agg (fA 0 0 false none 0 0 none 0 0)) 12 168:=cj.mk' Tryz.underlying62 (by kernel_rfl) rfl ad
structure cN(w:World)(g B:Nat)(M:List bD)(F:List aK)(l:List dO)(S:L3)(ln lc:Nat)(n:Int)(st:Nat)(code:List az)(sites:List Int)(bz:L3)(b3:Nat)(bU:L3)(bE:Nat):Prop where
 blk:∃GA gn gc MA mn mc FA fn fc,aq w g 215 #[.slice GA gn gc,.slice MA mn mc,.slice FA fn fc,.slice S ln lc,.int .i64 n,.int .i64 st,.int .i64 0,.int .i64 0,.slice bz code.length b3,.slice bU sites.length bE]/\mn<=1000000/\fn<=1000000/\
  Sl w (off (Ms g (.slice bz code.length b3) (.slice bU sites.length bE)) w) MA mn (M.map eD)/\Sl w (off (Ms g (.slice bz code.length b3) (.slice bU sites.length bE)) w) FA fn (F.map du)
 base:g<B/\B<=w.heap.size
 names:ln<=1000000/\Sl w (off (Ms g (.slice bz code.length b3) (.slice bU sites.length bE)) w) S ln (l.map b2)
 rows:lz B 58 12 3 1 w bz code.length b3 (code.map ej) bU sites.length bE (sites.map D.i)
section
variable {w ab aS aU b6 cK X:World} {g B:Nat} {M:List bD} {F:List aK} {l:List dO} {S:L3} {ln lc:Nat} {n:Int} {st:Nat} {code:List az} {sites:List Int} {bz:L3} {b3:Nat} {bU:L3} {bE:Nat}
theorem cN.lt(h:cN w g B M F l S ln lc n st code sites bz b3 bU bE):g<w.heap.size:=by
 obtain⟨GA,gn,gc,MA,mn,mc,FA,fn,fc,aR,_⟩:=h.blk;exact aR.lt
theorem cN.L(h:cN w g B M F l S ln lc n st code sites bz b3 bU bE):tY w g l:=by
 obtain⟨GA,gn,gc,MA,mn,mc,FA,fn,fc,aR,_⟩:=h.blk;exact⟨aR.lt,S,ln,lc,h.names.1,aR.cell 3,h.names.2.mono λb O=>O.1⟩
theorem cN.M_(h:cN w g B M F l S ln lc n st code sites bz b3 bU bE):yC w g M:=by
 obtain⟨GA,gn,gc,MA,mn,mc,FA,fn,fc,aR,ac,au,aY,bR⟩:=h.blk;exact⟨aR.lt,MA,mn,mc,ac,aR.cell 1,aY.mono λb O=>O.1⟩
theorem cN.F_(h:cN w g B M F l S ln lc n st code sites bz b3 bU bE):zD w g F:=by
 obtain⟨GA,gn,gc,MA,mn,mc,FA,fn,fc,aR,ac,au,aY,bR⟩:=h.blk;exact⟨aR.lt,FA,fn,fc,au,aR.cell 2,bR.mono λb O=>O.1⟩
theorem cN.aj(h:cN w g B M F l S ln lc n st code sites bz b3 bU bE)(he:Ext w ab):cN ab g B M F l S ln lc n st code sites bz b3 bU bE:=by
 obtain⟨GA,gn,gc,MA,mn,mc,FA,fn,fc,aR,ac,au,aY,bR⟩:=h.blk;exact⟨⟨GA,gn,gc,MA,mn,mc,FA,fn,fc,aR.aj he,ac,au,aY.cS (Mv.hg he),bR.cS (Mv.hg he)⟩,⟨h.base.1,LD h.base.2 he.size⟩,⟨h.names.1,h.names.2.cS (Mv.hg he)⟩,h.rows.aj he⟩
abbrev Kn(B g:Nat)(cv sv:Value)(w:World):Nat->Prop:=λb=>B<=b/\off (Ms g cv sv) w b
theorem cN.added(h:cN w g B M F l S ln lc n st code sites bz b3 bU bE){x:az}{s:Int}{Y aH:L3}{ah bc:Nat}(e1:Ext w aS)
  (ac:Gr (λb=>B<=b/\(Value.slice bU sites.length bE).ownBlock≠some b) B 58 12 aU Y (code.length+1) ah (code.map ej++[ej x])) (f1:Fr (λb=>(Value.slice bz code.length b3).ownBlock=some b) aS aU) (o1:dt aS bz code.length b3 Y (code.length+1) ah)
  (e2:Ext aU b6) (au:Gr (λb=>B<=b/\(Value.slice Y (code.length+1) ah).ownBlock≠some b) B 3 1 cK aH (sites.length+1) bc (sites.map D.i++[D.i s])) (f2:Fr (λb=>(Value.slice bU sites.length bE).ownBlock=some b) b6 cK) (fg:dt b6 bU sites.length bE aH (sites.length+1) bc)
  (hX:(cK.setCell ⟨g,8,none⟩ (.slice Y (code.length+1) ah)).setCell ⟨g,9,none⟩ (.slice aH (sites.length+1) bc)=X) :
  cN X g B M F l S ln lc n st (code++[x]) (sites++[s]) Y ah aH bc/\Mv g (.slice bz code.length b3) (.slice bU sites.length bE) w (.slice Y (code.length+1) ah) (.slice aH (sites.length+1) bc) X:=by
 have al:=h.lt;have b5:=FC hX;have s1:=e1.size;have s2:=f1.size;have T:=e2.size;have hM:Mv g (.slice bz code.length b3) (.slice bU sites.length bE) w (.slice Y (code.length+1) ah) (.slice aH (sites.length+1) bc) X:=by
  refine⟨Fr.trans (Fr.mono e1 λ_ h=>h.elim) (Fr.trans (f1.mono λb O=>.inr (.inl O)) (Fr.trans (Fr.mono e2 λ_ h=>h.elim) (Fr.trans (f2.mono λb O=>.inr (.inr O)) (b5.mono λb O=>.inl O)))),λb O hm=>?_⟩;rcases hm with hm|hm|hm
  .exact .inl hm
  .rcases o1 b hm with ac|ac
   .exact .inr (.inl ac)
   .omega
  .rcases fg b hm with ac|ac
   .exact .inr (.inr ac)
   .omega
 refine⟨?_,hM⟩;obtain⟨GA,gn,gc,MA,mn,mc,FA,fn,fc,aR,cv,bS,cW,H⟩:=h.blk;have a:∀b,(Value.slice bz code.length b3).ownBlock=some b->g<b:=λb O=>Ll h.base.1 (h.rows.one.lt O).1;have R:∀b,(Value.slice bU sites.length bE).ownBlock=some b->g<b:=λb O=>Ll h.base.1 (h.rows.two.lt O).1;have b4:aq cK g _ _:=(((aR.aj e1).on f1 λO=>by have:=a _ O;omega).aj e2).on f2 λO=>by have:=R _ O;omega
 have L:lz B 58 12 3 1 b6 Y (code.length+1) ah (code.map ej++[ej x]) bU sites.length bE (sites.map D.i):=((h.rows.aj e1).grow ac f1 o1).aj e2;have m:=(L.swap.grow au f2 fg).swap;refine⟨⟨GA,gn,gc,MA,mn,mc,FA,fn,fc,?_,cv,bS,?_,?_⟩,⟨h.base.1,LD h.base.2 hM.fr.size⟩,⟨h.names.1,?_⟩,?_⟩
 .rw[<-hX,Lm,Lm];exact(b4.aM 8 _).aM 9 _
 .rw[Lm,Lm];exact cW.cS hM
 .rw[Lm,Lm];exact H.cS hM
 .rw[Lm,Lm];exact h.names.2.cS hM
 .rw[Lr,Lr,Lm,Lm];exact m.c8 b5 λb O _=>by have:=h.base.1;omega
end
def HG(w:World)(g B:Nat)(M:List bD)(F:List aK)(l:List dO)(S:L3)(ln lc:Nat)(n:Int)(st:Nat)(code:List az)(sites:List Int)(bz:L3)(b3:Nat)(bU:L3)(bE:Nat)(x:az)(s:Int)(e:Ending)(ab:World):Prop:=
 e=.returned (.int .i64 code.length)/\∃Y ah aH bc,cN ab g B M F l S ln lc n st (code++[x]) (sites++[s]) Y ah aH bc/\Mv g (.slice bz code.length b3) (.slice bU sites.length bE) w (.slice Y (code.length+1) ah) (.slice aH (sites.length+1) bc) ab
theorem g8{w:World}{g B:Nat}{M:List bD}{F:List aK}{l:List dO}{S:L3}{ln lc:Nat}{n:Int}{st:Nat}{code:List az}{sites:List Int}{bz:L3}{b3:Nat}{bU:L3}{bE:Nat}(h:cN w g B M F l S ln lc n st code sites bz b3 bU bE)
  (x:az) (s:Int) {op t:Int} {gl:Bool} {eo en:Int} {es:ByteArray} {EA:L3} {em ec:Nat} {pb:Bool} {pi:Int} {PA:L3} {pm pc:Nat} {IA:L3} {i ic:Nat} {KA:L3} {k kc:Nat}
  (hx:(ej x).rep w (Kn B g (.slice bz code.length b3) (.slice bU sites.length bE) w) [.int .i64 op,.int .i64 t,.bool gl,.int .i64 eo,.int .i64 en,.string es,.slice EA em ec,.bool pb,.int .i64 pi,.slice PA pm pc,.slice IA i ic,.slice KA k kc])
  (ac:code.length<=100000) (au:sites.length<=100000) :
  Calls prog 134 #[.pointer (some ⟨g,0,none⟩),.agg #[.int .i64 op,.int .i64 t,.bool gl,.int .i64 eo,.int .i64 en,.string es,.slice EA em ec,.bool pb,.int .i64 pi,.slice PA pm pc,.slice IA i ic,.slice KA k kc],.int .i64 s] w
   (HG w g B M F l S ln lc n st code sites bz b3 bU bE x s):=by
 obtain⟨H,aQ⟩:=aJ h hx;obtain⟨GA,gn,gc,MA,mn,mc,FA,fn,fc,aR,_⟩:=h.blk;have bO:=ae aR;clear h hx aR;go_enter func134,ntmps134;go_upto_region 1 with(fail);generalize be:World.alloc _ _=W;have aw:=aW be;have bC:=aI be;clear be;obtain⟨bo,dW⟩:=aJ aw bC;obtain⟨a0,aj,af⟩:=bC.two;obtain⟨a7,am,aF⟩:=(bO.aj aw).two;have d2:=bO.lt;have nt:=aw.size;have dx:=H.base.1;have m:=H.base.2;clear aw bC;have bd:¬(Value.slice bz code.length b3).ownBlock=some g:=λO=>by have:=(H.rows.one.lt O).1;omega
 have ap:¬(Value.slice bz code.length b3).ownBlock=some w.heap.size:=λO=>by have:=(H.rows.one.lt O).2;omega
 have a9:∀b,(Value.slice bz code.length b3).ownBlock=some b->b<W.heap.size:=λb O=>by have:=(H.rows.one.lt O).2;omega
 have y:∀b,(Value.slice bU sites.length bE).ownBlock=some b->b<W.heap.size:=λb O=>by have:=(H.rows.two.lt O).2;omega
 have u:(ej x).rep W (lL (λb=>B<=b/\(Value.slice bU sites.length bE).ownBlock≠some b) W (.slice bz code.length b3)) _:=
  D.aL (λb O=>⟨⟨O.1,λhc=>O.2.2 (.inr (.inr hc))⟩,Ll O.2.1 nt,λhc=>O.2.2 (.inr (.inl hc))⟩) _ _ (D.aS (λb O=>bo.block b O.2.1 λh=>h) _ _ aQ.o)
 have o:=H.rows.aj bo.o;obtain⟨j,aO⟩:=aJ u o;clear u o;refine rC (λb=>(Value.slice bz code.length b3).ownBlock=some b) [15,18,21] (.free 0 (.free 1 (.free 2 (.free 3 (.free 4 (.held 5 (.held 6 (.free 9 (.free 10 (.free 11 (.held 12 (.free 13 (.pick [7,14] (λi=>bif i == 7 then .pick [8,14] (λi=>bif i == 8 then .pick [14] (λ_=>.pick [15] (λ_=>.free 16 (.free 17 (.pick [18] (λ_=>.free 19 (.free 20 (.pick [21] (λ_=>.stop)))))))) else .pick [8] (λ_=>.pick [15] (λ_=>.free 16 (.free 17 (.pick [18] (λ_=>.free 19 (.free 20 (.pick [21] (λ_=>.stop))))))))) else .pick [7] (λ_=>.pick [8] (λ_=>.pick [15] (λ_=>.free 16 (.free 17 (.pick [18] (λ_=>.free 19 (.free 20 (.pick [21] (λ_=>.stop))))))))))))))))))))))) ?_
 iterate 5 refine tf ?_
 iterate 2 refine nh ?_
 iterate 3 refine tf ?_
 refine nh ?_;refine tf ?_;refine iQ (P:=?P1) (ops:=?o1) (Q:=?q1) (R:=?r1) (tails:=?t1) (rest:=.pick [15] (λ_=>.free 16 (.free 17 (.pick [18] (λ_=>.free 19 (.free 20 (.pick [21] (λ_=>.stop)))))))) (aa:=?K5)
  (C:=λ(_:Nat) dv A2 c2 V=>True/\∃aS aU,Ext W aS/\Gr (λb=>B<=b/\(Value.slice bU sites.length bE).ownBlock≠some b) B 58 12 aU A2 (code.length+1) c2 (code.map ej++[ej x])/\Fr (λb=>(Value.slice bz code.length b3).ownBlock=some b) aS aU/\dt aS bz code.length b3 A2 (code.length+1) c2/\Ext aU V/\aq V dv 3 #[.int .i64 s]) (λkey=>?Jd) ?JS
 case Jd=>
  refine a2 ?_ ?_
  ·
   refine dT ?_;generalize hV:World.drew (World.alloc _ _)=e6;have e1:=gK hV;have dL:aq e6 W.heap.size 58 #[.int .i64 op,.int .i64 t,.bool gl,.int .i64 eo,.int .i64 en,.string es,.slice EA em ec,.bool pb,.int .i64 pi,.slice PA pm pc,.slice IA i ic,.slice KA k kc]:=hV▸LX;clear hV;refine a2 ?_ ?_
   ·
    refine aB rfl (λK hK=>?_) rfl;rw[if_pos (by rfl)];refine fa v9 (.tmp 12) (.tmp 14) (by rfl) (aO.aj e1).one dL (wE j.o e1) (by rfl) (by rfl) (by rfl) ad ad (aD e1.size) ?_;intro Y ah aU cb f1 o1 c1;refine dq hK (f1) ?_;clear hK K;refine ao ?_;refine dT ?_;have F:True/\∃aS f,Ext W aS/\Gr (λb=>B<=b/\(Value.slice bU sites.length bE).ownBlock≠some b) B 58 12 f Y (code.length+1) ah (code.map ej++[ej x])/\Fr (λb=>(Value.slice bz code.length b3).ownBlock=some b) aS f/\dt aS bz code.length b3 Y (code.length+1) ah/\Ext f (aU.alloc (.cells #[.int .i64 s] 3))/\aq (aU.alloc (.cells #[.int .i64 s] 3)) (aU.heap.size) 3 #[.int .i64 s]:=
     ⟨trivial,e6,aU,e1,cb,f1,o1,LW.alloc _,LX⟩
    clear cb o1;revert F;generalize aU.heap.size=dv;generalize W.heap.size=eQ;intro F;exact key eQ dv Y ah _ F
   ·
    refine dT ?_;generalize hV:World.alloc _ _=Z;have bG:aq Z e6.heap.size 3 #[.int .i64 s]:=hV▸LX;have aY:=by have:=dL.alloc (.cells #[.int .i64 s] 3);rw[hV] at this;exact this
    have e2:Ext W Z:=hV▸e1.alloc _;clear hV dL;refine ao ?_;refine aB rfl (λK hK=>?_) rfl;rw[if_pos (by rfl)];refine fa v9 (.tmp 12) (.tmp 14) (by rfl) (aO.aj e2).one aY (wE j.o e2) (by rfl) (by rfl) (by rfl) ad ad (aD e2.size) ?_;intro Y ah aU cb f1 o1 c1;refine dq hK (f1) ?_;clear hK K;have bf:¬(Value.slice bz code.length b3).ownBlock=some e6.heap.size:=λO=>by have:=a9 _ O;have:=e1.size;omega
    have F:True/\∃aS f,Ext W aS/\Gr (λb=>B<=b/\(Value.slice bU sites.length bE).ownBlock≠some b) B 58 12 f Y (code.length+1) ah (code.map ej++[ej x])/\Fr (λb=>(Value.slice bz code.length b3).ownBlock=some b) aS f/\dt aS bz code.length b3 Y (code.length+1) ah/\Ext f aU/\aq aU (e6.heap.size) 3 #[.int .i64 s]:=
     ⟨trivial,Z,aU,e2,cb,f1,o1,LW,bG.on f1 bf⟩
    clear cb o1;revert F;generalize e6.heap.size=dv;generalize W.heap.size=eQ;intro F;exact key eQ dv Y ah _ F
  ·
   refine dT ?_;generalize hV:World.drew (World.alloc _ _)=e6;have bG:aq e6 W.heap.size 3 #[.int .i64 s]:=hV▸LX;have e1:=gK hV;clear hV;refine ao ?_;refine dT ?_;generalize hV:World.alloc _ _=Z;have e2:Ext W Z:=hV▸e1.alloc _;have dL:=aI hV;have a4:aq Z W.heap.size 3 #[.int .i64 s]:=hV▸bG.alloc _;clear hV;refine ao ?_;refine aB rfl (λK hK=>?_) rfl;rw[if_pos (by rfl)];refine fa v9 (.tmp 12) (.tmp 14) (by rfl) (aO.aj e2).one dL (wE j.o e2) (by rfl) (by rfl) (by rfl) ad ad (aD e2.size) ?_;intro Y ah aU cb f1 o1 c1;refine dq hK (f1) ?_;clear hK K;have bf:¬(Value.slice bz code.length b3).ownBlock=some W.heap.size:=λO=>by have:=a9 _ O;omega
   have F:True/\∃aS f,Ext W aS/\Gr (λb=>B<=b/\(Value.slice bU sites.length bE).ownBlock≠some b) B 58 12 f Y (code.length+1) ah (code.map ej++[ej x])/\Fr (λb=>(Value.slice bz code.length b3).ownBlock=some b) aS f/\dt aS bz code.length b3 Y (code.length+1) ah/\Ext f aU/\aq aU (W.heap.size) 3 #[.int .i64 s]:=
    ⟨trivial,Z,aU,e2,cb,f1,o1,LW,a4.on f1 bf⟩
   clear cb o1;revert F;generalize W.heap.size=dv;generalize e6.heap.size=eQ;intro F;exact key eQ dv Y ah _ F
 case JS=>
  rintro eQ dv Y ah V ⟨v,aS,aU,e1,cb,f1,o1,e2,bG⟩;have s1:=e1.size;have s2:=f1.size;have T:=e2.size;have hG:lz B 58 12 3 1 V Y (code.length+1) ah (code.map ej++[ej x]) bU sites.length bE (sites.map D.i):=((aO.aj e1).grow cb f1 o1).aj e2;have b7:aq V g _ _:=(((bO.aj bo.o).aj e1).on f1 bd).aj e2;have r:¬(Value.slice bU sites.length bE).ownBlock=some g:=λO=>by have:=(H.rows.two.lt O).1;omega
  clear a0 aj af a7 am aF;refine ao ?_;refine bQ rfl (λK hK=>?_) rfl;rw[if_pos (by rfl)];refine fa dh (.tmp 19) (.tmp 21) (by rfl) hG.two bG (show (D.i s).rep V _ _ from by simp only[D.rep]) (by rfl) (by rfl) (by rfl) ad ad ad ?_;intro aH bc cK g2 f2 fg c2;have bY:=aE g2 f2 fg;have b4:=b7.on f2 r;have cz:=cJ e1 cb f1 o1 e2;clear g2 f2 fg b7 bG e1 cb f1 o1 e2 hG;obtain⟨a7,am,aF⟩:=b4.two;refine dP hK ?_;clear hK K
  iterate 2 refine tf ?_
  refine ao ?_;refine bQ rfl (λK hK=>?_) rfl;go_simp;refine dP hK ?_;clear hK K
  iterate 2 refine tf ?_
  refine ao ?_;refine bQ rfl (λK hK=>?_) rfl;go_simp;refine dP hK ?_;clear hK K;refine b9 ?_;generalize hX:World.setCell _ _ _=X;obtain⟨e1,cb,f1,o1,e2⟩:=cz.o;obtain⟨hS,hM⟩:=cN.added H.o (bo.trans e1) cb f1 o1 e2 bY.1 bY.2.1 bY.2.2 hX;have bq:=ag hS hM;obtain⟨bF,cp,a5,eu,gp,eB,cM,fZ,cH,br,_⟩:=hS.blk;clear hX a7 am aF b4 hS hM e1 cb f1 o1 e2;obtain⟨a7,am,aF⟩:=br.two;go_wp2;go_ret;refine⟨ret_int ?_,Y,ah,aH,bc,?_⟩
  .simp
  .exact bq.o
end Go.Proofs.YtkhnkojkplbioaaGreat
