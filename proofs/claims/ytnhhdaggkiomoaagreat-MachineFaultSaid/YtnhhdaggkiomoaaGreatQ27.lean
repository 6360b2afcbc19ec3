/- Part 27 of the proof. No condition of its own. -/
import Derived.Test.YtnhhdaggkiomoaaGreatQ15
namespace Go.Proofs.YtnhhdaggkiomoaaGreat
open Go.RowKit Go.Proofs.Tryz
set_option maxRecDepth 1000000
set_option maxHeartbeats 25600000
set_option linter.unusedVariables false
variable{cs:List Value}{P:Nat→Prop}{p:Prop}{f:aK}
theorem GI{w X V:World}{g:Nat}{t:TypeId}{v0 v1 c0 c1:Value}(aR:aq V g t #[c0,c1])(aw:Ext w V)(a2:w.heap.size≤g)(hX:(V.setCell ⟨g,0,none⟩ v0).setCell ⟨g,1,none⟩ v1=X):
  aq X g t #[v0,v1]∧Ext w X∧Fr (fun b=>b=g) V X:=by
 subst hX;exact⟨(aR.aM 0 v0).aM 1 v1,(aw.setCell (.inr a2) _).setCell (.inr a2) _,((Fr.refl (fun b=>b=g) V).setCell (.inl rfl) _).setCell (.inl rfl) _⟩
theorem sF{u:ay}(hu:cZ u){p:cJ}(hp:p∈u.procs){c:az}(hc:c∈p.code)(bn:c.op=2∨c.op=3):
  ∃q,0≤c.target∧u.procs[c.target.toNat]?=some q∧(c.places.length:Int)=q.av∧q.av≤100∧∀pl∈c.places,pl.param=true→0≤pl.index∧pl.index<p.av:=by
 obtain⟨s,hs,hl,y⟩:=(hu.procs p hp).code;rw[hs] at hc;rcases KP.1 hc with hc|hc
 ·rcases y c hc with h|h|h|h|h|h
  ·omega
  ·obtain⟨_,_,sg,h0,k,an,bk,_,aZ⟩:=h;simp only[bx,List.getElem?_map] at k
   cases bK:u.procs[c.target.toNat]? with
   | none=>rw[bK] at k;cases k
   | some q=>
    rw[bK] at k;injection k with k;subst k;refine⟨q,h0,rfl,bk,(hu.procs q (KJ bK)).av.2,fun pl hm O=>?_⟩;have:=aZ pl hm;unfold cU at this;simp_all
  ·omega
  ·omega
  ·omega
  ·omega
 ·simp only[Li] at hc;subst hc;simp[nj] at bn
namespace CL
theorem dC(h:p:=by
 clear e0 a6 aP;generalize bC:World.setCell aT _ _=cT;have cg:=cL bC;have aa:aq cT W.heap.size 158 #[.int .i64 c.target,.slice aQ (j+1) aY]:=bC▸b4.2.1.aM 1 _;clear bC;have co:=b4.1.c4 cg (fun b O _=>⟨fun h=>h,ad⟩);have n:=aB aa co (b4.2.2.trans cg);clear aa co cg;go_wp2_with(fail);go_roundw
 case rel=>
  refine⟨j+1,aQ,aY,ad,by go_num,n.2.2,n.1,?_⟩;have:=n.2.1;rw[bw.o j pl an.o,←cc.o];exact this
 case measure=>exact aH
 ):p:=h
end CL
open CL in
theorem pD(u:ay)(hu:cZ u)(GA:Ls)(gn gc:Nat)(MA:Ls)(mn mc:Nat)(PA:Ls)(pn pc:Nat)(x:hP)(cO:Ls)(cG cV:Nat)(p:cJ)(h0:0≤x.proc)(hp:u.procs[x.proc.toNat]?=some p)(b0:(x.av.length:Int)=p.av)
  (k:Nat) (ap:k<p.code.length) (w:World) (hU:hq w (au w) u GA gn MA mn PA pn) (hX:Sl w (au w) cO cG (x.av.map .i)) :
  Calls prog 82 #[.agg #[.slice GA gn gc,.slice MA mn mc,.slice PA pn pc,.int .i64 u.main],.agg #[.int .i64 x.proc,.slice cO cG cV],.int .i64 k] w
   fun e ab=>∃(ok:Bool) (y:hP) (da:Ls) (c8 dc:Nat),e=.returned (.tuple #[.agg #[.int .i64 y.proc,.slice da c8 dc],.bool ok])∧(ok=true→lV u y)∧c8≤dc∧Sl ab (fresh w ab) da c8 (y.av.map .i)∧Ext w ab:=by
 obtain⟨eD,dp⟩:=x;simp only at h0 hp b0 hX ⊢;obtain⟨dt,rfl⟩:=KL h0;rw[Lc] at hp;have ew:u.procs.length=pn:=by rw[←hU.p.1,KK]
 have yV:dt<pn:=by have:=(List.getElem?_eq_some_iff.1 hp).1;omega
 have gt:pn≤16:=by have:=hu.D1;omega
 have bp:p.code.length≤201:=by
  obtain⟨s,hs,hl,_⟩:=(hu.procs p (KJ hp)).code;rw[hs];simp;omega
 obtain⟨cz,a9,dB,dg,ck,aG,bt⟩:=C2 hu hu hU hX hp b0 ap;clear hU hX hp b0 h0 ew hu;go_enter func82,ntmps82;go_upto_region 1 with(fail);generalize ba:World.alloc _ _=W;have aw:=kq ba;have aR:=jo ba;have bs:=g5 ba;have bF:=jq ba;obtain⟨bq,b2,cb,a7⟩:=iS aw aR bs bF;obtain⟨a0,ai,af⟩:=aR.two;obtain⟨a8,am,aF⟩:=bs.two;obtain⟨d0,aL,aM⟩:=bF.two;clear ba aw aR bs bF;obtain⟨bO,op,dV,bx,bW,bJ,rfl,bG,cM,p0,bf,dR,p3,p4,Z,T⟩:=(dB.on bq.o).proc yV;obtain rfl:dV=p:=by rw[ck.o] at cM;injection cM with cM;exact cM.symm
 have eX:dV.code.length=bW:=by rw[←T.1,KK]
 have bX:k<bW:=ad;have bo:(0:Int)≤(k:Int):=ad;have cf:(k:Int)<(bW:Int):=ad;have ei:(0:Int)≤(dt:Int):=ad;have dN:(dt:Int)<(pn:Int):=ad;obtain⟨bc,b7,c,cells,eo,en,es,EA,em,ec,QA,qm,qc,IA,i,ic,KA,m,cj,rfl,cv,hc,bU,cm⟩:=T.DN bX;obtain⟨R,a1⟩:=aI bU hc;have aZ:=bU.cells;subst aZ;have c0:=cm 0 _ rfl;have c1:=cm 1 _ rfl;have aX:=cm 11 _ rfl;have br:=ae T;clear cm T hc cM p0 bf dR p3 eX bU;simp only[KQ] at c0;by_cases bn:c.op=2∨c.op=3
 case neg=>
  have fg:(c.op != 2)=true:=by simp;omega
  have o3:(c.op != 3)=true:=by simp;omega
  clear bn;go_wp2_with(fail);generalize cr:World.setCell _ _ _=Y;obtain⟨bI,bE,bz⟩:=GI a7.o bq.o ad cr;obtain⟨bl,aA,aO⟩:=bI.two;refine Ln (v:=.tuple #[.agg #[.int .i64 0,.slice none 0 0],.bool false]) (by simp[results,Tryz.results82,go_sem,bl]) rfl ?_;exact⟨false,⟨0,[]⟩,none,0,0,rfl,(fun h=>by cases h),KG _,Sl.bO _,bE⟩
 case pos=>
  obtain⟨q,L,bK,I,ep,dI⟩:=sF cz.o (KJ ck.o) (KJ a1.o) bn;have hm:c.places.length=m:=by have:=R.places.1;simpa using this
  have bY:=bH L bK I dI;have dD:m≤100:=ad;have cR:=ae hm;clear L bK I dI hm ep;rcases bn with bn|bn
  all_goals
   simp only[bn] at c0;clear bn;go_wp2_with(fail);generalize hV:World.alloc _ _=V;have bj:=aU hV;have f2:aq V W.heap.size 158 #[.int .i64 c.target,.slice none 0 0]:=hV▸aq.hL _ _ _ (by simp);have dm:W.heap.size<V.heap.size:=by rw[←hV];simp
   clear hV;obtain⟨cn,N⟩:=aI bj f2;clear a0 ai af a8 am aF d0 aL aM bj f2;obtain⟨bP,r⟩:∃bP:Nat→List D,bP=fun j=>(((c.places.take j).map fun pl=>if pl.param then dp.getD pl.index.toNat 0 else pl.index).map .i):=⟨_,rfl⟩
   have bd:=ae r;have ao:bP 0=[]:=by rw[r];rfl
   have aK:∀j pl,c.places[j]?=some pl→bP (j+1)=bP j++[.i (if pl.param then dp.getD pl.index.toNat 0 else pl.index)]:=fun j pl h=>by rw[r];simp only;rw[List.take_add_one,h];simp
   obtain⟨S,bw⟩:=aI ao aK;clear r ao aK
   try rw[show w.heap.size+1+1=w.heap.size+2 from rfl]
   generalize decide ((k:Int)<0)=aV;generalize decide (bW≤k)=a5;generalize (aV || a5)=bv;go_loopw [10] (fun cu wr=>∃(j:Nat) (da:Ls) (dc:Nat),j≤m∧cu=.int .i64 j∧Fr (fun b=>b=W.heap.size) V wr∧aq wr W.heap.size 158 #[.int .i64 c.target,.slice da j dc]∧Gr (fun _=>False) V.heap.size 3 1 wr da j dc (bP j)) (fun i _=>m - (intOf i).toNat)
   case atStart=>exact⟨0,none,0,Ld _,rfl,Lo,N.o,by rw[S.o];exact Gr.nil _ _ _ _ _⟩
   case round=>
    obtain⟨j,da,dc,bi,rfl,J,ah,a2⟩:=hrel;have P:Ext W wr:=Fr.low (M:=fun b=>b=W.heap.size) ((Fr.mono cn.o fun _ h=>h.elim).trans J) fun k ap=>ad;have bh:=(P.tb.1 bc (b7+k*12+11) cv).trans aX;obtain⟨N,l,bV,cC⟩:=iS ah P J a2;have bN:W.heap.size<wr.heap.size:=ah.lt;have bm:bc<wr.heap.size:=KH cv P.size;obtain⟨e0,a6,aP⟩:=ah.two;obtain⟨a8,am,aF⟩:=(cb.ai P).two;by_cases ak:j<m
    ·obtain⟨cF,fg,pl,bu,cq,be,rfl,bg,bk,ci,q1,cB,_,_⟩:=(R.places.on (Fr.ext P)).oQ ak;have bb:dp.length=cG:=by have:=dg.1;simpa using this
     have di:=(a9.procs dV (KJ ck.o)).av.2;have U:cG≤140737488355328:=by have:=aG.o;omega
     have ag:pl.param=true→0≤pl.index∧pl.index<cG:=fun O=>by
      have ac:=bY.2.2.2 pl (KJ bk) O;have:=aG.o;omega
     have cl:(0:Int)≤(j:Int):=ad;have cK:(j:Int)<(m:Int):=ad;obtain⟨z,a4,an⟩:=eh U ag bk;clear J ah a2 P aX bb di U ag bk;go_upto_region 8 with(fail);refine eK (fun _=>False) [(0,3),(1,0),(2,0),(3,3),(4,3),(5,3),(6,3),(7,0),(8,3),(9,3),(10,0),(11,1),(12,1),(13,2),(14,3),(15,2)] ?_;refine pf ?_
     iterate 2 refine ph ?_
     iterate 4 refine pf ?_
     refine ph ?_
     iterate 2 refine pf ?_
     refine ph ?_;refine aJ rfl (fun K hK=>?_);go_simp;obtain⟨v,bM⟩:∃v:Int,v=if pl.param then dp.getD pl.index.toNat 0 else pl.index:=⟨_,rfl⟩
     refine(yz dt cO cG cV dp pl [] (.slice bu cq be) wr.drew (dg.on (Fr.ext ((bq.trans l.o).drew))) z.o a4.o).mono ?_;rintro e aS ⟨he,ar⟩;rw[←bM] at he;subst he;have cc:=ae bM;clear bM;have aN:Ext wr aS:=Fr.aF ar;refine dz hK (ar) ?_;clear hK K;refine q0 ?_;refine ax rfl (fun K hK=>?_);rw[if_pos (by rfl)];clear ar;have aW:=aN.size;have bA:=bV.size;refine qJ de (.tmp 60) (.tmp 71) (by rfl) (cC.ai aN) (d:=.i v) (by simp only[D.rep]) (by rfl) (by rfl) (by rfl) ad ad ad ?_;intro aQ aY aT bB az al b9;have aC:∀b,(Value.slice da j dc).ownBlock=some b→V.heap.size≤b:=fun b O=>(cC.lt O).1;have H:=(N.ai aN).on az (fun O=>by have:=aC _ O;omega);have a3:Fr (fun b=>b=W.heap.size) V aT:=by
      have cQ:=bV.size;have bQ:=az.size;exact⟨az.os.trans (aN.os.trans bV.os),az.tape.trans (aN.tape.trans bV.tape),az.output.trans (aN.output.trans bV.output),ad,
       fun b O hn=>(az.block b ad (fun bn=>by have:=aC _ bn;omega)).trans ((aN.block b ad fun h=>h).trans (bV.block b O hn))⟩
     have b4:=aB bB H a3;clear e0 a6 aP a8 am aF aN bB az al aC a3 ci q1 cB;obtain⟨e0,a6,aP⟩:=H.two;clear H;refine dO hK ?_;clear hK K;refine pf ?_;exact eP
    ·obtain rfl:j=m:=ad;have ct:=a7.ai P;have aj:=ae ct;obtain⟨d0,aL,aM⟩:=ct.two;clear J ah a2 P ct;go_wp2_with(fail);generalize cr:World.setCell _ _ _=Y;obtain⟨bI,bE,bz⟩:=GI aj.o (bq.trans l.o) ad cr;obtain⟨bl,aA,aO⟩:=bI.two;refine Ln (v:=.tuple #[.agg #[.int .i64 c.target,.slice da j dc],.bool true]) (by simp[results,Tryz.results82,go_sem,bl]) rfl ?_;obtain⟨q1,cB,dd,df⟩:=bY.o;have bL:=bq.size;have bD:=a7.lt;have cp:=cC.c4 bz (fun b O _=>⟨fun h=>h,ad⟩);refine⟨true,⟨c.target,c.places.map fun pl=>if pl.param then dp.getD pl.index.toNat 0 else pl.index⟩,da,j,dc,rfl,fun _=>⟨q,q1,cB,by simpa using dd⟩,cC.cap.1,?_,bE⟩;have hS:=cp.sl (Q:=fresh w Y) (fun b _ h=>h.elim) (fun b ac av=>⟨ad,ac⟩);rw[bd.o] at hS;simp only at hS;rw[KO (aD cR.o)] at hS;exact hS
section
variable {U:ho} {G:Env} {l:List dL} {V T:Lt} {n nk:Int}
theorem Sc.fR(hS:Sc U G l V T n nk):∀(d:Nat) (x:VE),x.src V d→fR l x
 | d,.num k,h=>trivial
 | d,.g0 s,h=>by
  have F:s∈V:=by cases d<;>exact h
  obtain⟨e,he,ap⟩:=hS.vars s F
  exact⟨e,he,ap.imp (fun h=>h.1) (fun h=>h.1)⟩
 | d,.loc _,h=>by cases d<;>exact h.elim
 | d,.iC _,h=>by cases d<;>exact h.elim
 | 0,.un _ _,h=>h.elim
 | 0,.bin _ _ _,h=>h.elim
 | d+1,.un op x,h=>⟨h.1,Sc.fR hS d x h.2⟩
 | d+1,.bin op x y,h=>⟨h.1,Sc.fR hS d x h.2.1,Sc.fR hS d y h.2.2⟩
theorem Sc.qq(hS:Sc U G l V T n nk)(r:eO)(h:rX G V r):qq U.af l r:=by
 rcases h with⟨m,hm,hn,ac,av⟩|⟨hp,an⟩
 ·obtain⟨e,he,ap,h0,hu⟩:=hS.IF m hm;rw[hn] at he;exact⟨e,he,.inr ⟨ap,m,h0,hu,fun hs=>by obtain⟨x,hx,ay⟩:=ac hs;exact⟨x,hx,hS.fR 2 x ay⟩,av⟩⟩
 ·obtain⟨e,he,ap,_,_⟩:=hS.D7 _ hp;exact⟨e,he,.inl ⟨ap,an⟩⟩
end
def uY(F:List aK)(G:Env)(l:List dL):Prop:=∀s ps,(s,ps)∈G.funcs→∃(e:dL) (f:aK),dB l s=some e∧e.kind=3∧0≤e.n∧F[e.n.toNat]?=some f∧f.params=ps
theorem uY.app{F:List aK}{G:Env}{l:List dL}(h:uY F G l)(x:dL):uY F G (l++[x]):=fun s ps hs=>by
 obtain⟨e,f,he,r⟩:=h s ps hs;exact⟨e,f,jz he,r⟩
theorem DD{p:bM}(hp:ox p)(J:f∈p.funcs):uY p.funcs (hW p f) (bo p++dQ f.params 0 0):=by
 intro s ps hs;have bD:((bo p++dQ f.params 0 0).map (·.name)).Nodup:=by
  rw[KN,fO,fL];exact(hp.funcs f J).fresh
 obtain⟨g,a2,bJ⟩:=Lf.1 hs;injection bJ with a7 bB;subst a7 bB;obtain⟨i,an⟩:=List.getElem?_of_mem a2;have:=kZ bD (KP.2 (.inl (by unfold bo;exact KP.2 (.inr (h9 (·.name) 3 p.funcs 0 i g an)))));refine⟨_,g,this,rfl,by show (0:Int)≤((0+i:Nat):Int);omega,?_,rfl⟩;show p.funcs[(((0+i:Nat):Int)).toNat]?=some g
 rw[Lc,KY];exact an
def je(M:List bI)(l:List dL):List (ByteArray×Bool)→List dn→Prop
 | [],[]=>True
 | p::ps,.mx r::a1=>(p.2=true∧qq M l r)∧je M l ps a1
 | p::ps,.ex e::a1=>(p.2=false∧fR l e)∧je M l ps a1
 | _,_=>False
theorem Sc.je{U:ho}{G:Env}{l:List dL}{V T:Lt}{n nk:Int}(hS:Sc U G l V T n nk):∀(ps:List (ByteArray×Bool)) (a1:List dn),iN G V ps a1→je U.af l ps a1
 | [],[],_=>trivial
 | p::ps,.mx r::a1,h=>⟨⟨h.1.1,hS.qq r h.1.2⟩,Sc.je hS ps a1 h.2⟩
 | p::ps,.ex e::a1,h=>⟨⟨h.1.1,hS.fR 2 e h.1.2⟩,Sc.je hS ps a1 h.2⟩
 | [],_::_,h=>h.elim
 | _::_,[],h=>h.elim
theorem lN{M:List bI}{l:List dL}:∀{ps:List (ByteArray×Bool)} {a1:List dn},je M l ps a1→ps.length=a1.length
 | [],[],_=>rfl
 | _::ps,.mx _::a1,h=>by simp[lN h.2]
 | _::ps,.ex _::a1,h=>by simp[lN h.2]
 | [],_::_,h=>h.elim
 | _::_,[],h=>h.elim
theorem m6{M:List bI}{l:List dL}:∀{ps:List (ByteArray×Bool)} {a1:List dn},je M l ps a1→∀{k:Nat} {q:ByteArray×Bool} {a:dn},ps[k]?=some q→a1[k]?=some a→
  (∃r,a=.mx r∧q.2=true∧qq M l r)∨(∃e,a=.ex e∧q.2=false∧fR l e)
 | [],[],_,k,q,a,h,_=>by simp at h
 | p::ps,.mx r::a1,h,0,q,a,ac,av=>by
  simp at ac av;subst ac av
  exact .inl ⟨r,rfl,h.1.1,h.1.2⟩
 | p::ps,.ex e::a1,h,0,q,a,ac,av=>by
  simp at ac av;subst ac av
  exact .inr ⟨e,rfl,h.1.1,h.1.2⟩
 | p::ps,.mx r::a1,h,k+1,q,a,ac,av=>m6 h.2 (by simpa using ac) (by simpa using av)
 | p::ps,.ex e::a1,h,k+1,q,a,ac,av=>m6 h.2 (by simpa using ac) (by simpa using av)
 | [],_::_,h,_,_,_,_,_=>h.elim
 | _::_,[],h,_,_,_,_,_=>h.elim
theorem hZ(l:List dL)(a1:List dn)(a:dn):bT l (a1++[a])=bT l a1++bT l [a]∧cB l (a1++[a])=cB l a1++cB l [a]:=by
 induction a1 with
 | nil=>exact⟨rfl,rfl⟩
 | cons x a1 ao=>cases x<;>simp[bT,cB,ao.1,ao.2]
structure y5(w:World)(g:Nat)(F:List aK):Prop where
 lt:g<w.heap.size
 ex:∃A n c,n≤1000000∧w.cell? ⟨g,2,none⟩=some (.slice A n c)∧Sl w (au w) A n (F.map dr)
theorem y5.on{w ab:World}{g:Nat}{F:List aK}(h:y5 w g F)(O:Ext w ab):y5 ab g F:=by
 exact C8
theorem kS{w:World}:(dr f).rep w P cs↔∃A n c B m k,cs=[.string f.name,.slice A n c,.slice B m k]∧n≤c∧m≤k∧Sl w P A n (f.params.map ds)∧Sl w P B m (c5 f.body):=by
 unfold dr;rw[bK,cp];constructor
 ·rintro⟨y,rfl,h⟩;obtain⟨A,n,c,cw,rfl,hc,hs,h⟩:=aN.1 h;obtain⟨B,m,k,cG,rfl,ap,O,h⟩:=aN.1 h;rw[aP] at h;subst h;exact⟨A,n,c,B,m,k,rfl,hc,ap,hs,O⟩
 ·rintro⟨A,n,c,B,m,k,rfl,hc,ap,hs,O⟩;exact⟨_,rfl,aN.2 ⟨A,n,c,_,rfl,hc,hs,aN.2 ⟨B,m,k,[],rfl,ap,O,aP.2 rfl⟩⟩⟩
theorem nh(f:aK):(dr f).sz=3:=rfl
theorem ru(q:ByteArray×Bool):(ds q).sz=2:=rfl
theorem nP{w:World}{q:ByteArray×Bool}:(ds q).rep w P cs↔cs=[.string q.1,.bool q.2]:=by
 unfold ds;rw[bK,cp];constructor
 ·rintro⟨y,rfl,h⟩;obtain⟨cG,rfl,av⟩:=fp.1 h;rw[aP] at av;subst av;rfl
 ·rintro rfl;exact⟨_,rfl,fp.2 ⟨_,rfl,aP.2 rfl⟩⟩
theorem Hb:ch prog 57 56 (.agg #[.bool false,.int .i64 0,.slice none 0 0]) 3 40:=ch.mk' Tryz.underlying57 (by kernel_rfl) rfl ad
abbrev fv(op t:Int)(g:Bool)(IA:Ls)(i ic:Nat)(S:Ls)(k lc:Nat):Array Value:=
 #[.int .i64 op,.int .i64 t,.bool g,.int .i64 0,.int .i64 0,.string ⟨#[]⟩,.slice none 0 0,.bool false,.int .i64 0,.slice none 0 0,.slice IA i ic,.slice S k lc]
theorem Dw{w:World}{r:eO}(h:(gH (.mx r)).rep w P cs):∃s A n c A2 c2,cs=[.bool true,.string s,.slice A n c,.int .i64 0,.int .i64 0,.string ⟨#[]⟩,.slice A2 0 c2]∧(ky r).rep w P [.string s,.slice A n c]:=by
 exact Gt
namespace Bu
theorem vu(h:p:=by
 obtain⟨A,n,c,bo,rfl,_,_,bt⟩:=aN.1 hx;rw[aP] at bt;subst bt;rw[D.bj] at bb;obtain⟨A2,bi,c2,rfl,_,_⟩:=a1.1 bb;exact⟨_,_,_,_,_,_,_,_,_,rfl,bb⟩
 ):p:=h
end Bu
open Bu in
theorem Du{w:World}{e:VE}(h:(gH (.ex e)).rep w P cs):∃cc bF rc op n s A m c,cs=[.bool false,.string ⟨#[]⟩,.slice cc bF rc,.int .i64 op,.int .i64 n,.string s,.slice A m c]∧(bk e).rep w P [.int .i64 op,.int .i64 n,.string s,.slice A m c]:=by
 exact vt
theorem qu{w:World}{l:List D}(h:D.aQ w P l cs):D.aQ w P (jL::l) (.int .i64 0::.int .i64 0::.string ⟨#[]⟩::.slice none 0 0::cs):=
 dE.2 ⟨[.int .i64 0,.int .i64 0,.string ⟨#[]⟩,.slice none 0 0],cs,rfl,fh.2 ⟨none,0,rfl⟩,h⟩
theorem n8{w:World}{l:List D}(h:D.aQ w P l cs):D.aQ w P (di j9::l) (.bool false::.int .i64 0::.slice none 0 0::cs):=
 dE.2 ⟨[.bool false,.int .i64 0,.slice none 0 0],cs,rfl,dT.2 ⟨none,0,0,rfl,KG _,Sl.bO _⟩,h⟩
theorem ju{w:World}{op t:Int}{g:Bool}{is:List VE}{ps:List bR}{IA:Ls}{i ic:Nat}{S:Ls}{k lc:Nat}(ac:Sl w P IA i (is.map bk))(av:Sl w P S k (ps.map di))(c1:i≤ic)(c2:k≤lc):
  (eg ⟨op,t,g,none,j9,is,ps⟩).rep w P (fv op t g IA i ic S k lc).toList:=by
 unfold eg;rw[bK];exact bm.2 ⟨_,rfl,bm.2 ⟨_,rfl,fp.2 ⟨_,rfl,qu (n8 (aN.2 ⟨IA,i,ic,_,rfl,c1,ac,aN.2 ⟨S,k,lc,[],rfl,c2,av,aP.2 rfl⟩⟩))⟩⟩⟩
theorem vA:ch prog 63 59 (.agg (fv 0 0 false none 0 0 none 0 0)) 12 168:=ch.mk' Tryz.underlying63 (by kernel_rfl) rfl ad
structure cK(w:World)(g B:Nat)(M:List bI)(F:List aK)(l:List dL)(S:Ls)(ln lc:Nat)(n:Int)(st:Nat)(code:List az)(sites:List Int)(bx:Ls)(bJ:Nat)(bS:Ls)(bD:Nat):Prop where
 blk:∃GA gn gc MA mn mc FA fn fc,aq w g 192 #[.slice GA gn gc,.slice MA mn mc,.slice FA fn fc,.slice S ln lc,.int .i64 n,.int .i64 st,.int .i64 0,.int .i64 0,.slice bx code.length bJ,.slice bS sites.length bD]∧mn≤1000000∧fn≤1000000∧
  Sl w (off (Ms g (.slice bx code.length bJ) (.slice bS sites.length bD)) w) MA mn (M.map ey)∧Sl w (off (Ms g (.slice bx code.length bJ) (.slice bS sites.length bD)) w) FA fn (F.map dr)
 base:g<B∧B≤w.heap.size
 names:ln≤1000000∧Sl w (off (Ms g (.slice bx code.length bJ) (.slice bS sites.length bD)) w) S ln (l.map bZ)
 rows:ld B 59 12 3 1 w bx code.length bJ (code.map eg) bS sites.length bD (sites.map D.i)
section
variable {w ab aS aT b6 cN X:World} {g B:Nat} {M:List bI} {F:List aK} {l:List dL} {S:Ls} {ln lc:Nat} {n:Int} {st:Nat} {code:List az} {sites:List Int} {bx:Ls} {bJ:Nat} {bS:Ls} {bD:Nat}
theorem cK.lt(h:cK w g B M F l S ln lc n st code sites bx bJ bS bD):g<w.heap.size:=by
 obtain⟨GA,gn,gc,MA,mn,mc,FA,fn,fc,aR,_⟩:=h.blk;exact aR.lt
theorem cK.L(h:cK w g B M F l S ln lc n st code sites bx bJ bS bD):ts w g l:=by
 obtain⟨GA,gn,gc,MA,mn,mc,FA,fn,fc,aR,_⟩:=h.blk;exact⟨aR.lt,S,ln,lc,h.names.1,aR.cell 3,h.names.2.mono fun b O=>O.1⟩
theorem cK.M_(h:cK w g B M F l S ln lc n st code sites bx bJ bS bD):x7 w g M:=by
 obtain⟨GA,gn,gc,MA,mn,mc,FA,fn,fc,aR,ac,av,aV,bz⟩:=h.blk;exact⟨aR.lt,MA,mn,mc,ac,aR.cell 1,aV.mono fun b O=>O.1⟩
theorem cK.F_(h:cK w g B M F l S ln lc n st code sites bx bJ bS bD):y5 w g F:=by
 obtain⟨GA,gn,gc,MA,mn,mc,FA,fn,fc,aR,ac,av,aV,bz⟩:=h.blk;exact⟨aR.lt,FA,fn,fc,av,aR.cell 2,bz.mono fun b O=>O.1⟩
theorem cK.ai(h:cK w g B M F l S ln lc n st code sites bx bJ bS bD)(he:Ext w ab):cK ab g B M F l S ln lc n st code sites bx bJ bS bD:=by
 obtain⟨GA,gn,gc,MA,mn,mc,FA,fn,fc,aR,ac,av,aV,bz⟩:=h.blk;exact⟨⟨GA,gn,gc,MA,mn,mc,FA,fn,fc,aR.ai he,ac,av,aV.cQ (Mv.g8 he),bz.cQ (Mv.g8 he)⟩,⟨h.base.1,KX h.base.2 he.size⟩,⟨h.names.1,h.names.2.cQ (Mv.g8 he)⟩,h.rows.ai he⟩
abbrev JJ(B g:Nat)(cv sv:Value)(w:World):Nat→Prop:=fun b=>B≤b∧off (Ms g cv sv) w b
theorem cK.added(h:cK w g B M F l S ln lc n st code sites bx bJ bS bD){x:az}{s:Int}{Y al:Ls}{ah aH:Nat}(e1:Ext w aS)
  (ac:Gr (fun b=>B≤b∧(Value.slice bS sites.length bD).ownBlock≠some b) B 59 12 aT Y (code.length+1) ah (code.map eg++[eg x])) (f1:Fr (fun b=>(Value.slice bx code.length bJ).ownBlock=some b) aS aT) (o1:dq aS bx code.length bJ Y (code.length+1) ah)
  (e2:Ext aT b6) (av:Gr (fun b=>B≤b∧(Value.slice Y (code.length+1) ah).ownBlock≠some b) B 3 1 cN al (sites.length+1) aH (sites.map D.i++[D.i s])) (f2:Fr (fun b=>(Value.slice bS sites.length bD).ownBlock=some b) b6 cN) (fg:dq b6 bS sites.length bD al (sites.length+1) aH)
  (hX:(cN.setCell ⟨g,8,none⟩ (.slice Y (code.length+1) ah)).setCell ⟨g,9,none⟩ (.slice al (sites.length+1) aH)=X) :
  cK X g B M F l S ln lc n st (code++[x]) (sites++[s]) Y ah al aH∧Mv g (.slice bx code.length bJ) (.slice bS sites.length bD) w (.slice Y (code.length+1) ah) (.slice al (sites.length+1) aH) X:=by
 have ak:=h.lt;have b8:=EW hX;have s1:=e1.size;have s2:=f1.size;have T:=e2.size;have hM:Mv g (.slice bx code.length bJ) (.slice bS sites.length bD) w (.slice Y (code.length+1) ah) (.slice al (sites.length+1) aH) X:=by
  refine⟨Fr.trans (Fr.mono e1 fun _ h=>h.elim) (Fr.trans (f1.mono fun b O=>.inr (.inl O)) (Fr.trans (Fr.mono e2 fun _ h=>h.elim) (Fr.trans (f2.mono fun b O=>.inr (.inr O)) (b8.mono fun b O=>.inl O)))),fun b O hm=>?_⟩;rcases hm with hm|hm|hm
  ·exact .inl hm
  ·rcases o1 b hm with ac|ac
   ·exact .inr (.inl ac)
   ·omega
  ·rcases fg b hm with ac|ac
   ·exact .inr (.inr ac)
   ·omega
 refine⟨?_,hM⟩;obtain⟨GA,gn,gc,MA,mn,mc,FA,fn,fc,aR,cv,bP,cU,H⟩:=h.blk;have a:∀b,(Value.slice bx code.length bJ).ownBlock=some b→g<b:=fun b O=>KH h.base.1 (h.rows.one.lt O).1;have R:∀b,(Value.slice bS sites.length bD).ownBlock=some b→g<b:=fun b O=>KH h.base.1 (h.rows.two.lt O).1;have b7:aq cN g _ _:=(((aR.ai e1).on f1 fun O=>by have:=a _ O;omega).ai e2).on f2 fun O=>by have:=R _ O;omega
 have L:ld B 59 12 3 1 b6 Y (code.length+1) ah (code.map eg++[eg x]) bS sites.length bD (sites.map D.i):=((h.rows.ai e1).grow ac f1 o1).ai e2;have m:=(L.swap.grow av f2 fg).swap;refine⟨⟨GA,gn,gc,MA,mn,mc,FA,fn,fc,?_,cv,bP,?_,?_⟩,⟨h.base.1,KX h.base.2 hM.fr.size⟩,⟨h.names.1,?_⟩,?_⟩
 ·rw[←hX,KI,KI];exact(b7.aM 8 _).aM 9 _
 ·rw[KI,KI];exact cU.cQ hM
 ·rw[KI,KI];exact H.cQ hM
 ·rw[KI,KI];exact h.names.2.cQ hM
 ·rw[KN,KN,KI,KI];exact m.c4 b8 fun b O _=>by have:=h.base.1;omega
end
def GX(w:World)(g B:Nat)(M:List bI)(F:List aK)(l:List dL)(S:Ls)(ln lc:Nat)(n:Int)(st:Nat)(code:List az)(sites:List Int)(bx:Ls)(bJ:Nat)(bS:Ls)(bD:Nat)(x:az)(s:Int)(e:Ending)(ab:World):Prop:=
 e=.returned (.int .i64 code.length)∧∃Y ah al aH,cK ab g B M F l S ln lc n st (code++[x]) (sites++[s]) Y ah al aH∧Mv g (.slice bx code.length bJ) (.slice bS sites.length bD) w (.slice Y (code.length+1) ah) (.slice al (sites.length+1) aH) ab
theorem g1{w:World}{g B:Nat}{M:List bI}{F:List aK}{l:List dL}{S:Ls}{ln lc:Nat}{n:Int}{st:Nat}{code:List az}{sites:List Int}{bx:Ls}{bJ:Nat}{bS:Ls}{bD:Nat}(h:cK w g B M F l S ln lc n st code sites bx bJ bS bD)
  (x:az) (s:Int) {op t:Int} {gl:Bool} {eo en:Int} {es:ByteArray} {EA:Ls} {em ec:Nat} {pb:Bool} {pi:Int} {PA:Ls} {pm pc:Nat} {IA:Ls} {i ic:Nat} {KA:Ls} {k kc:Nat}
  (hx:(eg x).rep w (JJ B g (.slice bx code.length bJ) (.slice bS sites.length bD) w) [.int .i64 op,.int .i64 t,.bool gl,.int .i64 eo,.int .i64 en,.string es,.slice EA em ec,.bool pb,.int .i64 pi,.slice PA pm pc,.slice IA i ic,.slice KA k kc])
  (ac:code.length≤100000) (av:sites.length≤100000) :
  Calls prog 114 #[.pointer (some ⟨g,0,none⟩),.agg #[.int .i64 op,.int .i64 t,.bool gl,.int .i64 eo,.int .i64 en,.string es,.slice EA em ec,.bool pb,.int .i64 pi,.slice PA pm pc,.slice IA i ic,.slice KA k kc],.int .i64 s] w
   (GX w g B M F l S ln lc n st code sites bx bJ bS bD x s):=by
 obtain⟨H,aQ⟩:=aI h hx;obtain⟨GA,gn,gc,MA,mn,mc,FA,fn,fc,aR,_⟩:=h.blk;have b2:=ae aR;clear h hx aR;go_enter func114,ntmps114;go_upto_region 1 with(fail);generalize ba:World.alloc _ _=W;have aw:=aU ba;have dI:=aG ba;clear ba;obtain⟨bq,dW⟩:=aI aw dI;obtain⟨a0,ai,af⟩:=dI.two;obtain⟨a8,am,aF⟩:=(b2.ai aw).two;have d1:=b2.lt;have m1:=aw.size;have dt:=H.base.1;have m:=H.base.2;clear aw dI;have a9:¬(Value.slice bx code.length bJ).ownBlock=some g:=fun O=>by have:=(H.rows.one.lt O).1;omega
 have ap:¬(Value.slice bx code.length bJ).ownBlock=some w.heap.size:=fun O=>by have:=(H.rows.one.lt O).2;omega
 have a2:∀b,(Value.slice bx code.length bJ).ownBlock=some b→b<W.heap.size:=fun b O=>by have:=(H.rows.one.lt O).2;omega
 have y:∀b,(Value.slice bS sites.length bD).ownBlock=some b→b<W.heap.size:=fun b O=>by have:=(H.rows.two.lt O).2;omega
 have u:(eg x).rep W (lv (fun b=>B≤b∧(Value.slice bS sites.length bD).ownBlock≠some b) W (.slice bx code.length bJ)) _:=
  D.aL (fun b O=>⟨⟨O.1,fun hc=>O.2.2 (.inr (.inr hc))⟩,KH O.2.1 m1,fun hc=>O.2.2 (.inr (.inl hc))⟩) _ _ (D.aS (fun b O=>bq.block b O.2.1 fun h=>h) _ _ aQ.o)
 have o:=H.rows.ai bq.o;obtain⟨j,aO⟩:=aI u o;clear u o;refine q4 (fun b=>(Value.slice bx code.length bJ).ownBlock=some b) [15,18,21] (.free 0 (.free 1 (.free 2 (.free 3 (.free 4 (.held 5 (.held 6 (.free 9 (.free 10 (.free 11 (.held 12 (.free 13 (.pick [7,14] (fun i=>bif i == 7 then .pick [8,14] (fun i=>bif i == 8 then .pick [14] (fun _=>.pick [15] (fun _=>.free 16 (.free 17 (.pick [18] (fun _=>.free 19 (.free 20 (.pick [21] (fun _=>.stop)))))))) else .pick [8] (fun _=>.pick [15] (fun _=>.free 16 (.free 17 (.pick [18] (fun _=>.free 19 (.free 20 (.pick [21] (fun _=>.stop))))))))) else .pick [7] (fun _=>.pick [8] (fun _=>.pick [15] (fun _=>.free 16 (.free 17 (.pick [18] (fun _=>.free 19 (.free 20 (.pick [21] (fun _=>.stop))))))))))))))))))))))) ?_
 iterate 5 refine tf ?_
 iterate 2 refine mV ?_
 iterate 3 refine tf ?_
 refine mV ?_;refine tf ?_;refine iM (P:=?P1) (ops:=?o1) (Q:=?q1) (R:=?r1) (tails:=?t1) (rest:=.pick [15] (fun _=>.free 16 (.free 17 (.pick [18] (fun _=>.free 19 (.free 20 (.pick [21] (fun _=>.stop)))))))) (aa:=?Kq)
  (C:=fun(_:Nat) bK A2 c2 V=>True∧∃aS aT,Ext W aS∧Gr (fun b=>B≤b∧(Value.slice bS sites.length bD).ownBlock≠some b) B 59 12 aT A2 (code.length+1) c2 (code.map eg++[eg x])∧Fr (fun b=>(Value.slice bx code.length bJ).ownBlock=some b) aS aT∧dq aS bx code.length bJ A2 (code.length+1) c2∧Ext aT V∧aq V bK 3 #[.int .i64 s]) (fun key=>?Iv) ?Jf
 case Iv=>
  refine aY ?_ ?_
  ·
   refine dP ?_;generalize hV:World.drew (World.alloc _ _)=cC;have e1:=gF hV;have eN:aq cC W.heap.size 59 #[.int .i64 op,.int .i64 t,.bool gl,.int .i64 eo,.int .i64 en,.string es,.slice EA em ec,.bool pb,.int .i64 pi,.slice PA pm pc,.slice IA i ic,.slice KA k kc]:=hV▸Lp;clear hV;refine aY ?_ ?_
   ·
    refine aC rfl (fun K hK=>?_) rfl;rw[if_pos (by rfl)];refine e5 vA (.tmp 12) (.tmp 14) (by rfl) (aO.ai e1).one eN (vV j.o e1) (by rfl) (by rfl) (by rfl) ad ad (aD e1.size) ?_;intro Y ah aT cd f1 o1 c1;refine dz hK (f1) ?_;clear hK K;refine ao ?_;refine dP ?_;have F:True∧∃aS f,Ext W aS∧Gr (fun b=>B≤b∧(Value.slice bS sites.length bD).ownBlock≠some b) B 59 12 f Y (code.length+1) ah (code.map eg++[eg x])∧Fr (fun b=>(Value.slice bx code.length bJ).ownBlock=some b) aS f∧dq aS bx code.length bJ Y (code.length+1) ah∧Ext f (aT.alloc (.cells #[.int .i64 s] 3))∧aq (aT.alloc (.cells #[.int .i64 s] 3)) (aT.heap.size) 3 #[.int .i64 s]:=
     ⟨trivial,cC,aT,e1,cd,f1,o1,Lo.alloc _,Lp⟩
    clear cd o1;revert F;generalize aT.heap.size=bK;generalize W.heap.size=ds;intro F;exact key ds bK Y ah _ F
   ·
    refine dP ?_;generalize hV:World.alloc _ _=Z;have cl:aq Z cC.heap.size 3 #[.int .i64 s]:=hV▸Lp;have aV:=by have:=eN.alloc (.cells #[.int .i64 s] 3);rw[hV] at this;exact this
    have e2:Ext W Z:=hV▸e1.alloc _;clear hV eN;refine ao ?_;refine aC rfl (fun K hK=>?_) rfl;rw[if_pos (by rfl)];refine e5 vA (.tmp 12) (.tmp 14) (by rfl) (aO.ai e2).one aV (vV j.o e2) (by rfl) (by rfl) (by rfl) ad ad (aD e2.size) ?_;intro Y ah aT cd f1 o1 c1;refine dz hK (f1) ?_;clear hK K;have bf:¬(Value.slice bx code.length bJ).ownBlock=some cC.heap.size:=fun O=>by have:=a2 _ O;have:=e1.size;omega
    have F:True∧∃aS f,Ext W aS∧Gr (fun b=>B≤b∧(Value.slice bS sites.length bD).ownBlock≠some b) B 59 12 f Y (code.length+1) ah (code.map eg++[eg x])∧Fr (fun b=>(Value.slice bx code.length bJ).ownBlock=some b) aS f∧dq aS bx code.length bJ Y (code.length+1) ah∧Ext f aT∧aq aT (cC.heap.size) 3 #[.int .i64 s]:=
     ⟨trivial,Z,aT,e2,cd,f1,o1,Lo,cl.on f1 bf⟩
    clear cd o1;revert F;generalize cC.heap.size=bK;generalize W.heap.size=ds;intro F;exact key ds bK Y ah _ F
  ·
   refine dP ?_;generalize hV:World.drew (World.alloc _ _)=cC;have cl:aq cC W.heap.size 3 #[.int .i64 s]:=hV▸Lp;have e1:=gF hV;clear hV;refine ao ?_;refine dP ?_;generalize hV:World.alloc _ _=Z;have e2:Ext W Z:=hV▸e1.alloc _;have eN:=aG hV;have a5:aq Z W.heap.size 3 #[.int .i64 s]:=hV▸cl.alloc _;clear hV;refine ao ?_;refine aC rfl (fun K hK=>?_) rfl;rw[if_pos (by rfl)];refine e5 vA (.tmp 12) (.tmp 14) (by rfl) (aO.ai e2).one eN (vV j.o e2) (by rfl) (by rfl) (by rfl) ad ad (aD e2.size) ?_;intro Y ah aT cd f1 o1 c1;refine dz hK (f1) ?_;clear hK K;have bf:¬(Value.slice bx code.length bJ).ownBlock=some W.heap.size:=fun O=>by have:=a2 _ O;omega
   have F:True∧∃aS f,Ext W aS∧Gr (fun b=>B≤b∧(Value.slice bS sites.length bD).ownBlock≠some b) B 59 12 f Y (code.length+1) ah (code.map eg++[eg x])∧Fr (fun b=>(Value.slice bx code.length bJ).ownBlock=some b) aS f∧dq aS bx code.length bJ Y (code.length+1) ah∧Ext f aT∧aq aT (W.heap.size) 3 #[.int .i64 s]:=
    ⟨trivial,Z,aT,e2,cd,f1,o1,Lo,a5.on f1 bf⟩
   clear cd o1;revert F;generalize W.heap.size=bK;generalize cC.heap.size=ds;intro F;exact key ds bK Y ah _ F
 case Jf=>
  rintro ds bK Y ah V ⟨v,aS,aT,e1,cd,f1,o1,e2,cl⟩;have s1:=e1.size;have s2:=f1.size;have T:=e2.size;have hG:ld B 59 12 3 1 V Y (code.length+1) ah (code.map eg++[eg x]) bS sites.length bD (sites.map D.i):=((aO.ai e1).grow cd f1 o1).ai e2;have b5:aq V g _ _:=(((b2.ai bq.o).ai e1).on f1 a9).ai e2;have r:¬(Value.slice bS sites.length bD).ownBlock=some g:=fun O=>by have:=(H.rows.two.lt O).1;omega
  clear a0 ai af a8 am aF;refine ao ?_;refine bN rfl (fun K hK=>?_) rfl;rw[if_pos (by rfl)];refine e5 de (.tmp 19) (.tmp 21) (by rfl) hG.two cl (show (D.i s).rep V _ _ from by simp only[D.rep]) (by rfl) (by rfl) (by rfl) ad ad ad ?_;intro al aH cN g2 f2 fg c2;have b4:=aB g2 f2 fg;have b7:=b5.on f2 r;have bv:=cI e1 cd f1 o1 e2;clear g2 f2 fg b5 cl e1 cd f1 o1 e2 hG;obtain⟨a8,am,aF⟩:=b7.two;refine dO hK ?_;clear hK K
  iterate 2 refine tf ?_
  refine ao ?_;refine bN rfl (fun K hK=>?_) rfl;go_simp;refine dO hK ?_;clear hK K
  iterate 2 refine tf ?_
  refine ao ?_;refine bN rfl (fun K hK=>?_) rfl;go_simp;refine dO hK ?_;clear hK K;refine b3 ?_;generalize hX:World.setCell _ _ _=X;obtain⟨e1,cd,f1,o1,e2⟩:=bv.o;obtain⟨hS,hM⟩:=cK.added H.o (bq.trans e1) cd f1 o1 e2 b4.1 b4.2.1 b4.2.2 hX;have bm:=ag hS hM;obtain⟨aZ,cu,bc,ev,gq,eC,cT,f3,cy,bo,_⟩:=hS.blk;clear hX a8 am aF b7 hS hM e1 cd f1 o1 e2;obtain⟨a8,am,aF⟩:=bo.two;go_wp2;go_ret;refine⟨ret_int ?_,Y,ah,al,aH,?_⟩
  ·simp
  ·exact bm.o
end Go.Proofs.YtnhhdaggkiomoaaGreat
