/- Part 21 of the proof. No condition of its own. -/
import Derived.Test.YtkhnkojkplbioaaGreatQ20
namespace Go.Proofs.YtkhnkojkplbioaaGreat
open Go.RowKit Go.Proofs.Tryz
set_option maxRecDepth 1000000
set_option maxHeartbeats 25600000
set_option linter.unusedVariables false
variable{a:Act}{ops:Array Oper}{Q:Exit->Act->World->Prop}{t:Int}{fs:List ak}{bytes size:Nat}{o:Oper}{P:Program}{p:Prop}{e:TypeId}{z:Value}{S:World}{R f:ak}
def Hz(w:World)(a b:List Int×Int)(e:Ending)(ab:World):Prop:=
 (a.2≠0->e=.returned (.tuple #[.slice none 0 0,.slice none 0 0,.int .i64 a.2])/\Ext w ab)/\
 (a.2=0->b.2≠0->e=.returned (.tuple #[.slice none 0 0,.slice none 0 0,.int .i64 b.2])/\Ext w ab)/\
 (a.2=0->b.2=0->∃A n c I aP aK,e=.returned (.tuple #[.slice A n c,.slice I aP aK,.int .i64 0])/\n<=c/\aP<=aK/\Sl ab (fresh w ab) A n (a.1.map D.i)/\Sl ab (fresh w ab) I aP (b.1.map D.i)/\Ext w ab)
def wH(g l:List Int)(es:List VE)(k:Nat):Prop:=∀e∈es.take k,(ev g l e).2=0
theorem nH{g l:List Int}:∀{es:List VE},(∀e∈es,(ev g l e).2=0)->cC g l es=(es.map λe=>(ev g l e).1,0)
 | [],_=>rfl
 | e::es,h=>by
  have ac:=h e (by simp);have au:=nH (es:=es) λx hx=>h x (by simp[hx]);unfold cC;rw[if_neg ad,au,if_neg (by simp)];rfl
theorem nG{g l:List Int}:∀{es:List VE} {k:Nat} {e:VE},wH g l es k->es[k]?=some e->(ev g l e).2≠0->cC g l es=([],(ev g l e).2)
 | [],k,e,_,h,_=>by simp at h
 | x::es,0,e,_,h,O=>by
  simp at h;subst h;unfold cC
  rw[if_pos O]
 | x::es,k+1,e,hu,h,O=>by
  have ac:(ev g l x).2=0:=hu x (by simp);have au:=nG (es:=es) (k:=k) (e:=e) (λy bb=>hu y (by simp[bb])) (by simpa using h) O;unfold cC;rw[if_neg ad,au,if_pos O]
theorem me{u:ay}{s:ai}{f:ak}:∀{ps:List bN},(∀p∈ps,(bo u s f p).2=0)->bL u s f ps=(ps.map λp=>(bo u s f p).1,0)
 | [],_=>rfl
 | p::ps,h=>by
  have ac:=h p (by simp);have au:=me (ps:=ps) λx hx=>h x (by simp[hx]);unfold bL;rw[if_neg ad,au,if_neg (by simp)];rfl
theorem mb{u:ay}{s:ai}{f:ak}:∀{ps:List bN} {k:Nat} {p:bN},(∀x∈ps.take k,(bo u s f x).2=0)->ps[k]?=some p->(bo u s f p).2≠0->bL u s f ps=([],(bo u s f p).2)
 | [],k,p,_,h,_=>by simp at h
 | x::ps,0,p,_,h,O=>by
  simp at h;subst h;unfold bL
  rw[if_pos O]
 | x::ps,k+1,p,hu,h,O=>by
  have ac:(bo u s f x).2=0:=hu x (by simp);have au:=mb (ps:=ps) (k:=k) (p:=p) (λy bb=>hu y (by simp[bb])) (by simpa using h) O;unfold bL;rw[if_neg ad,au,if_pos O]
theorem jv.args{u:ay}{s:ai}{cn:cM}{x:az}{N:Nat}(h:jv u s t f cn x N)(cA:x.op=2\/x.op=3):(∀e∈x.ints,gj (bC u) cn.locals e)/\(∀p∈x.places,cW (bC u) cn.locals cn.au p)/\
  0<=x.target/\∃pc,u.procs[x.target.toNat]?=some pc/\(x.ints.length:Int)=pc.ints/\(x.places.length:Int)=pc.au/\qK (bC u) pc:=by
 obtain⟨len,_,an⟩:=h.ok;rcases an with⟨ac,_⟩|⟨_,_,sg,au,aY,bR,cI,a2,g⟩|⟨ac,_⟩|⟨ac,_⟩|⟨ac,_⟩|⟨ac,_⟩
 .omega
 .refine⟨a2,g,au,?_⟩;simp only[bC,List.getElem?_map] at aY
  cases bA:u.procs[x.target.toNat]? with
  | none=>rw[bA] at aY;cases aY
  | some r=>
   rw[bA] at aY;simp only[Option.map_some,LP] at aY;subst aY;exact⟨r,rfl,bR,cI,h.hU.ok.procs r (Ln bA)⟩
 .omega
 .omega
 .omega
 .omega
namespace C0
theorem sX(h:p:=by
 have bu:=ag bb Q;clear bb Q cV Z a8 O aw hG T J;go_upto_region 6 with(fail);generalize hU:World.alloc _ _=U;have cw:=aW hU;have c4:=aI hU;have bi:=a3.2.2.2.trans cw;have cD:=aE cw bi (D.on bu.2 (Fr.ext cw));have I:=(ah.2.2.2.2.2.2.2.on bi)
 have cx:=I.lf;have f2:=I.c2;obtain⟨d0,aL,aM⟩:=c4.two;obtain⟨a7,am,aF⟩:=(ah.2.2.1.aj bi).two;have X:=ae I;clear hU cw c4 bi I c0 c1 c2 c3 aT;refine eC (λ_=>False) [(0,0),(1,3),(2,0),(3,3),(4,3),(5,3),(6,0),(7,2),(8,3),(9,3),(10,3),(11,3),(12,3)] ?_;refine ph ?_;refine pf ?_;refine ph ?_
 iterate 3 refine pf ?_
 refine ph ?_;refine ax rfl (λK hK=>?_);go_simp;have aa:Ext U U.drew:=(Fr.refl _ U).drew;refine(pC ex U.drew bU IA bW i bE ic s.globals f.ints _ _ _ _ (aQ.1.FV (aQ.2.1 ex (Ln bu.1)) ((ah.2.2.2.2.2.1.on cD.2.1).on aa).at_.g (X.on aa).ints (D.on cD.2.2 (Fr.ext aa))).1).mono ?_;rintro e aU ⟨rfl,bj⟩;have aX:=ae (show Ext U aU from Fr.aF (Fr.of bj));have an:=λbv=>nG (k:=k) a3.2.2.1 bu.1 bv;generalize ar:ev s.globals f.ints ex=R at *;obtain⟨r,z⟩:=R;have bO:=ag an ar;clear an ar bj aa d0 aL aM a7 am aF f2 cx X;refine dP hK ?_;clear hK K
 iterate 5 refine pf ?_
 refine aC ?_;by_cases bv:z=0
 .have q5:(z != 0)=false:=by simpa using bv
  have L:=(a3.2.1.aj cD.1).aj aX.o;have bN:=cD.1.size;have cQ:=aX.size;obtain⟨P,bh⟩:=aJ L bv;clear bv L;go_wp2_with(at_builtin;refine bT dh rfl (.tmp 46) (.tmp 48) rfl P.o (d:=D.i r) (cs:=#[.int .i64 r]) (by simp only[D.rep]) rfl rfl rfl ad ad ad ?_;intro cE c3 b6 cb g2 cT da;have bY:=ag cb g2;clear cb g2 cT da);have bB:∀b,(Value.slice A k c).ownBlock=some b->aS.heap.size<=b:=λb O=>(P.lt O).1;have a4:Ext aS b6:=Fr.low (M:=λb=>(Value.slice A k c).ownBlock=some b) (Fr.trans (Fr.mono ((a3.1.trans cD.1).trans aX.o) λ_ h=>h.elim) bY.2) λb O=>bB b O;have bd:=ae a4;clear bB a4;go_roundw
  case rel=>
   refine⟨k+1,cE,c3,rfl,by go_num,ad,bd.o,?_,λe he=>?_⟩
   .rw[a1 bu.1,Lr,Lr];have ac:=bY.1;exact sG
   .rw[a1 bu.1] at he;rcases Lt.1 he with he|he
    .exact a3.2.2.1 e he
    .rw[LO.1 he,bO.2];exact bh.o
  case measure=>exact aH
 .have q5:(z != 0)=true:=by simpa using bv
  have bX:=ae (bO.1 bv);have bh:=ae bv;clear bv;go_wp2_with(fail)
  go_ret3
  have V:Ext w aU:=((ah.1.trans a3.2.2.2).trans cD.1).trans aX.o;refine⟨λh=>⟨?_,V⟩,λh=>absurd h ?_,λh=>absurd h ?_⟩
  .rw[bX.o];rfl
  .rw[bX.o];exact bh.o
  .rw[bX.o];exact bh.o
 ):p:=h
theorem hE(h:p:=by
 obtain⟨eo,en,es,EA,em,ec,QA,qm,qc,dg,j,dc,KA,dj,kc⟩:=v;obtain⟨bm,bn,cj,cY,n,fc,IA,i,ic,S,l,lc,e,hT⟩:=hs.at_.top h.sm h.ht;simp only at e;subst e;obtain⟨bV,b5,_⟩:=h.args cA;have bq:x.ints.length=j:=by have:=bG.ints.1;simpa using this
 have aV:x.places.length=dj:=by have:=bG.places.1;simpa using this
 have ci:j<=200:=by have:=h.il;omega
 have cN:dj<=200:=by have:=h.kl;omega
 have aQ:=cJ h bV b5 bq aV;have ce:=bJ hu hs bG hT;clear h bV b5 bq aV hu hs bG hT;dsimp only[UV.val,SV.val,IV.val];go_enter func98,ntmps98;go_upto_region 1 with(fail);generalize be:World.alloc _ _=W;have aw:=lC be;have b4:=jw be;have cf:=h1 be;have ba:=jx be;have ah:=pH aw b4 cf ba (ce.1.on aw) (ce.2.1.on aw) (ce.2.2.1.on aw) (ce.2.2.2.on aw);obtain⟨a7,am,aF⟩:=cf.two;clear be aw b4 cf ba ce;go_wp2_with(fail);refine(lj ah.2.2.2.2.2.2.2 _ _ _).mono ?_;rintro e aS ⟨rfl,aN⟩;have bx:=ae aN;clear a7 am aF;obtain⟨d0,aL,aM⟩:=(ah.2.2.2.1.aj aN).two;clear aN;have nt:=bx.size;have c5:=ah.1.size;go_wp2_with(fail);clear d0 aL aM;go_loopw [11,28] (λsv cy wr=>∃(k:Nat) (A:L3) (c:Nat),sv=.slice A k c/\cy=.int .i64 k/\k<=j/\Ext aS wr/\Gr (λ_=>False) aS.heap.size 3 1 wr A k c (((x.ints.take k).map λe=>(ev s.globals f.ints e).1).map D.i)/\wH s.globals f.ints x.ints k) (λ_ cy _=>j - (intOf cy).toNat)
 case atStart=>exact⟨0,none,0,rfl,rfl,ad,LW,Gr.nil _ _ _ _ _,λe he=>by simp at he⟩
 case round=>
  obtain⟨k,A,c,rfl,rfl,ap,aw,hG,T⟩:=hrel;have J:=bx.trans aw;have a3:=bJ aw hG T J;have gr:=aw.size;by_cases al:k<j
  .obtain⟨b,o,ex,cs,rfl,O,bb,Q,a8,Z⟩:=(ah.2.2.2.2.2.2.1.ints.on (Fr.ext J)).g6 db al;exact sW
  .obtain rfl:k=j:=ad;have y:cC s.globals f.ints x.ints=(x.ints.map λe=>(ev s.globals f.ints e).1,0):=nH λe he=>T e (by rw[Ls (aD aQ.2.2.2.1)];exact he);have cm:Sl wr (λb=>aS.heap.size<=b/\b<wr.heap.size) A k ((cC s.globals f.ints x.ints).1.map D.i):=by
    have a9:=hG;rw[Ls (aD aQ.2.2.2.1)] at a9;rw[y];exact a9.sl (λb _ h=>h.elim) λb al O=>⟨O,al⟩
   have b9:=hG.cap.1;obtain⟨cK,rfl⟩:∃cK,cK=wr:=⟨wr,rfl⟩
   have HA:=aE cm b9 y;obtain⟨d0,aL,aM⟩:=(ah.2.2.2.1.aj J).two;clear aw hG T J y cm b9;go_wp2_with(fail);clear d0 aL aM;go_loopw [12,54] (λsv cy wr=>∃(m:Nat) (B:L3) (aK:Nat),sv=.slice B m aK/\cy=.int .i64 m/\m<=dj/\Ext cK wr/\Gr (λ_=>False) cK.heap.size 3 1 wr B m aK (((x.places.take m).map λp=>(bo u s f p).1).map D.i)/\∀p∈x.places.take m,(bo u s f p).2=0) (λ_ cy _=>dj - (intOf cy).toNat)
   case atStart=>exact⟨0,none,0,rfl,rfl,ad,LW,Gr.nil _ _ _ _ _,λe he=>by simp at he⟩
   case round=>
    obtain⟨m,B,aK,rfl,rfl,hm,aw,hG,T⟩:=hrel;have J:=a3.2.2.2.trans aw;have bZ:=bJ aw hG T J;have dR:=aw.size;by_cases dt:m<dj
    .obtain⟨b,o,pl,b1,cI,zc,rfl,O,bb,b2,cG,ch,cg,cR⟩:=(ah.2.2.2.2.2.2.1.places.on (Fr.ext J)).pq dt;have aT:b<wr.heap.size:=O;have bu:=aE bb cg cR;clear bb cg cR O aw hG T J;go_upto_region 14 with(fail);generalize hU:World.alloc _ _=U;have cw:=aW hU;have c4:=aI hU;have bi:=bZ.2.2.2.trans cw;have cD:=aE cw bi (dX.2 ⟨b1,cI,zc,rfl,bu.2.1,bu.2.2.on (Fr.ext cw)⟩:(dk pl).rep U (av U) [.bool pl.param,.int .i64 pl.index,.slice b1 cI zc]);obtain⟨d0,aL,aM⟩:=c4.two;obtain⟨a7,am,aF⟩:=(ah.2.2.1.aj bi).two;obtain⟨a0,aj,af⟩:=(ah.2.1.aj bi).two;clear hU cw c4 bi b2 cG ch aT;go_wp2_with(fail);refine(qq u s t f pl N U ⟨GA,gn,gc,MA,mn,mc,PA,pn,pc⟩ ⟨bU,bW,bE,TA,tn,tc,some ⟨bm,bn,none⟩,hn,hc⟩ b1 cI zc ⟨aQ.1.hU.ok,aQ.1.hS,aQ.1.sm,aQ.1.ht,⟨cn,aQ.1.hp,aQ.2.2.1 pl (Ln bu.1)⟩,ah.2.2.2.2.1.on cD.2.1,ah.2.2.2.2.2.1.on cD.2.1,cD.2.2⟩).mono ?_;rintro e aU ⟨rfl,bj⟩;rw[iB aQ.1.ht];have aX:=ae (show Ext U aU from Fr.of bj);have an:=λbv=>mb (k:=m) bZ.2.2.1 bu.1 bv;generalize ar:bo u s f pl=R at *;obtain⟨r,z⟩:=R;have bO:=ag an ar;clear an ar bj d0 aL aM a7 am aF a0 aj af;by_cases bv:z=0
     .have q5:(z != 0)=false:=by simpa using bv
      have L:=(bZ.2.1.aj cD.1).aj aX.o;have bN:=cD.1.size;have cQ:=aX.size;obtain⟨P,bh⟩:=aJ L bv;clear bv L;go_wp2_with(at_builtin;refine bT dh rfl (.tmp 69) (.tmp 71) rfl P.o (d:=D.i r) (cs:=#[.int .i64 r]) (by simp only[D.rep]) rfl rfl rfl ad ad ad ?_;intro cE c3 b6 cb g2 cT da;have bY:=ag cb g2;clear cb g2 cT da);have bB:∀b,(Value.slice B m aK).ownBlock=some b->cK.heap.size<=b:=λb O=>(P.lt O).1;have a4:Ext cK b6:=Fr.low (M:=λb=>(Value.slice B m aK).ownBlock=some b) (Fr.trans (Fr.mono ((bZ.1.trans cD.1).trans aX.o) λ_ h=>h.elim) bY.2) λb O=>bB b O;have bd:=ae a4;clear bB a4;go_roundw
      case rel=>
       refine⟨m+1,cE,c3,rfl,by go_num,ad,bd.o,?_,λe he=>?_⟩
       .rw[a1 bu.1,Lr,Lr];have ac:=bY.1;exact sG
       .rw[a1 bu.1] at he;rcases Lt.1 he with he|he
        .exact bZ.2.2.1 e he
        .rw[LO.1 he,bO.2];exact bh.o
      case measure=>exact aH
     .have q5:(z != 0)=true:=by simpa using bv
      have bX:=ae (bO.1 bv);have bh:=ae bv;clear bv;go_wp2_with(fail)
      go_ret3
      have V:Ext w aU:=((ah.1.trans bZ.2.2.2).trans cD.1).trans aX.o;refine⟨λh=>absurd ?_ h,λ_ h=>⟨?_,V⟩,λ_ h=>absurd h ?_⟩
      .rw[HA.2.2]
      .rw[bX.o];rfl
      .rw[bX.o];exact bh.o
    .obtain rfl:m=dj:=ad;have y:bL u s f x.places=(x.places.map λp=>(bo u s f p).1,0):=me λe he=>T e (by rw[Ls (aD aQ.2.2.2.2)];exact he);have cm:Sl wr (fresh w wr) B m ((bL u s f x.places).1.map D.i):=by
      have a9:=hG;rw[Ls (aD aQ.2.2.2.2)] at a9;rw[y];exact a9.sl (λb _ h=>h.elim) λb al O=>⟨ad,al⟩
     have b9:=hG.cap.1;have b8:=aE cm b9 y;clear aw hG T J y cm b9;go_wp2_with(fail)
     go_ret3
     refine⟨λh=>absurd ?_ h,λ_ h=>absurd ?_ h,λ_ _=>⟨A,k,c,B,m,aK,rfl,HA.2.1,b8.2.1,(HA.1.al λb O=>bZ.1.block b O.2 λh=>h).mono λb O=>⟨by have:=O.1;omega,by have:=O.2;omega⟩,b8.1,ah.1.trans bZ.2.2.2⟩⟩
     .rw[HA.2.2]
     .rw[b8.2.2]
 ):p:=h
end C0
open C0 in
theorem wN(u:ay)(s:ai)(t:Int)(f:ak)(cn:cM)(x:az)(N:Nat)(w:World)(p:UV)(q:SV)(v:IV)(h:jv u s t f cn x N)(cA:x.op=2\/x.op=3)(hu:p.Ok w u)(hs:q.Ok w s)(bG:v.Ok w x) :
  Calls prog 98 #[.agg (p.val u),.agg (q.val s),.int .i64 t,.agg (v.val x)] w (Hz w (cC s.globals f.ints x.ints) (bL u s f x.places)):=by
 exact hB
theorem yA{t:TypeId}{K:Act->World->Prop}(aX:cj P t e z size bytes)(s x:Operand)
  (bn:o.op=.call {callee:=.builtin .append,args:=#[s,x],argTypes:=#[t,t]})
  {A:L3} {n c g:Nat} {xs:List Value} {F:List Nat} (h0:Own S e size A n c xs F) {cs:Array Value} {i:TypeId} (aR:aq S g i cs)
  (hs:a.eval s=.slice A n c) (hx:a.eval x=.slice (some ⟨g,0,none⟩) 1 1) (T:cs.size=size) (ac:∀u∈cs.toList,u.oneCell'=true)
  (r:(n+1)*bytes<=140737488355328) (y:n+1<=140737488355328)
  (h:∀I aK ab,Own ab e size I (n+1) aK (xs++cs.toList) (bt I (n+1) aK)->Fr (λb=>b∈F) S ab->(∀b∈bt I (n+1) aK,b∈F\/(S.heap.size<=b/\b<ab.heap.size))->K (a.put o.dst (.slice I (n+1) aK)) ab):o.wp P a S K Q:=by
 have ay:Src S size (some ⟨g,0,none⟩) 1 cs.toList:=⟨by simpa using T,ac,λ_=>⟨g,0,rfl,λj u bi=>by
  rw[LF,aR.cell];simpa using bi⟩⟩
 refine kf _ aX s x bn 0 _ n xs hs h0.row _ 1 1 cs.toList hx ay r y (LJ _) (λh=>nomatch h) λG ab bS cW H=>?_;obtain⟨I,aK,rfl,hc,_⟩:=b5 bS;refine h I aK ab ⟨bS,rfl⟩ (LW.grown cW λg a9=>.inl (by rw[h0.eq];simp[a9])) λb O=>?_;have aT:(Value.slice I (n+1) aK).ownBlock=some b:=by simpa using O
 rcases H with H|H
 .rw[H] at aT;exact .inl (by rw[h0.eq];simp[aT])
 .have:=(bS.lt b aT).2;rw[H] at aT;injection aT with aT;right;omega
theorem ml{R:World->World->Prop}{rest:List (Nat×Nat)}{W:World}(C:World->Prop)(hC:C W)(h:∀V,C V->ca P ops Q R rest a V):ca P ops Q R rest a W:=h W hC
theorem uY{s:ai}{a5:ak}(h:s.threads[t.toNat]?=some (fs++[f])):kM (aT s t a5) t R={s with threads:=(s.threads.set t.toNat (fs++[a5])).set t.toNat (fs++[a5]++[R])}:=by
 rw[eh h];unfold kM;have al:=(List.getElem?_eq_some_iff.1 h).1;rw[lh (x:=fs++[a5]) (by simp[al])]
theorem nr{t:TypeId}{rest:List Oper}(aX:cj P t e z size bytes)(i:o.guard=none)(s x:Operand)
  (bn:o.op=.call {callee:=.builtin .append,args:=#[s,x],argTypes:=#[t,t]})
  {A:L3} {n c g:Nat} {xs:List Value} {F:List Nat} (h0:Own S e size A n c xs F) {cs:Array Value}
  (hs:a.eval s=.slice A n c) (hx:a.eval x=.slice (some ⟨g,0,none⟩) 1 1) (a9:g=S.heap.size) (T:cs.size=size) (ac:∀u∈cs.toList,u.oneCell'=true)
  (r:(n+1)*bytes<=140737488355328) (y:n+1<=140737488355328)
  (h:∀I aK ab,Own ab e size I (n+1) aK (xs++cs.toList) (bt I (n+1) aK)->Fr (λb=>b∈F) S ab->(∀b∈bt I (n+1) aK,b∈F\/(S.heap.size<=b/\b<ab.heap.size))->wpList P ops Q rest (a.put o.dst (.slice I (n+1) aK)) ab):wpList P ops Q (o::rest) a (S.alloc (.cells cs e)):=by
 subst a9;exact oG aX i s x bn h0 hs hx T ac r y h
section
variable {B:Nat} {w ab:World} {s:ai} {N:Nat} {q:SV} {xs:List Value} {F1 F2 bT b2:List Nat}
theorem ki.E7{α:Type}{E:World->α->List Value->List Nat->Prop}{w:World}:∀{l:List α} {xs:List Value} {F:List Nat},ki E w l xs F->∀{k:Nat} {a:α},l[k]?=some a->
  ∃Z x a4 F1 f F2,xs=Z++(x++a4)/\F=F1++(f++F2)/\ki E w (l.take k) Z F1/\E w a x f/\ki E w (l.drop (k+1)) a4 F2
 | [],_,_,_,k,a,ap=>by simp at ap
 | b::l,xs,F,h,0,a,ap=>by
  obtain⟨x,y,F1,F2,rfl,rfl,ac,au⟩:=h;simp only[List.getElem?_cons_zero,LP] at ap;subst ap
  exact⟨[],x,y,[],F1,F2,rfl,rfl,⟨rfl,rfl⟩,ac,au⟩
 | b::l,xs,F,h,k+1,a,ap=>by
  obtain⟨bx,y,g,R,rfl,rfl,ac,au⟩:=h;simp only[List.getElem?_cons_succ] at ap;obtain⟨Z,x,a4,F1,f,F2,rfl,rfl,aY,bR,cI⟩:=ki.E7 au ap;exact⟨bx++Z,x,a4,g++F1,f,F2,by simp,by simp,⟨bx,Z,g,F1,rfl,rfl,ac,aY⟩,bR,cI⟩
theorem qp{α β:Type}(g:α->β):∀(l:List α) (k:Nat) (x:α),(l.set k x).map g=(l.map g).set k (g x)
 | [],_,_=>rfl
 | _::_,0,_=>rfl
 | a::l,k+1,x=>by simp[qp g l k x]
theorem dC.start(h:dC B w s N q xs F1 F2 bT b2){c0 c1 c2 c3:Value}{P:Nat->Prop}(cZ:(ew R).rep w P [c0,c1,c2,c3])(a1:∀b,P b->B<=b/\b<w.heap.size/\b≠N/\b∉F1++(F2++(bT++b2)))
  {aS aU X:World} (ao:w.alloc (.cells #[c0,c1,c2,c3] 72)=aS) {I:L3} {aK:Nat}
  (ba:Own aU 68 1 I (q.hn+1) aK (xs++[.slice (some ⟨w.heap.size,0,none⟩) 1 1]) (bt I (q.hn+1) aK)) (J:Fr (λb=>b∈bT) aS aU) (r:∀b∈bt I (q.hn+1) aK,b∈bT\/(aS.heap.size<=b/\b<aU.heap.size))
  (hX:aU.setCell ⟨N,2,none⟩ (.slice I (q.hn+1) aK)=X) :
  let ar:SV:=⟨q.GA,q.gn,q.gc,q.TA,q.tn,q.tc,I,q.hn+1,aK⟩
  let Q:ai:={s with threads:=s.threads++[[R]]}
  ar.Is X (λb=>B<=b/\b<X.heap.size/\b≠N) Q/\aq X N 40 (ar.val Q)/\Fr (λb=>B<=b) w X:=by
 intro ar Q;have dD:aS.heap.size=w.heap.size+1:=by rw[<-ao];simp
 have aN:=aW ao;have v:=aI ao;have bN:=J.size;have H:X.heap.size=aU.heap.size:=by rw[<-hX];simp[World.setCell]
 have nd:=h.st.nd;have n1:=wU.1 nd;have d3:∀b∈F1++(F2++b2),b∉bT:=λb O aY=>(List.nodup_append.1 n1).2.2 b aY b O rfl;have bz:∀b,b∈bT->b∈F1++(F2++(bT++b2)):=λb O=>by simp[O]
 have bE:∀b,b∈F1++(F2++b2)->b∈F1++(F2++(bT++b2)):=λb O=>by
  exact zR
 have y:∀b,b<aS.heap.size->b≠N->b∉bT->X.heap[b]?=aS.heap[b]?:=λb al bf aY=>by
  rw[<-hX];exact(aR bf).trans (J.block b al aY)
 have i:∀b∈F1++(F2++b2),X.heap[b]?=w.heap[b]?:=λb O=>by
  have hl:=(h.lo b (bE b O)).2;exact(y b ad (λhe=>h.ne (he▸bE b O)) (d3 b O)).trans (aN.block b hl λh=>h)
 have a:∀b,b∈F1++(F2++b2)->B<=b/\b<X.heap.size/\b≠N:=λb O=>⟨(h.lo b (bE b O)).1,by have:=(h.lo b (bE b O)).2;omega,λhe=>h.ne (he▸bE b O)⟩
 have cT:=h.o.lt;have F:∀b,P b->X.heap[b]?=w.heap[b]?:=λb O=>by
  obtain⟨_,au,aY,bR⟩:=a1 b O;exact(y b ad aY (λcI=>bR (bz b cI))).trans (aN.block b au λh=>h)
 have m:B<=w.heap.size:=by have:=h.go;omega
 have aT:aq X w.heap.size 72 #[c0,c1,c2,c3]:=(y _ ad ad (λcI=>by have:=(h.lo _ (bz _ cI)).2;omega)).trans v;have cg:(ew R).rep X (λb=>B<=b/\b<X.heap.size/\b≠N) [c0,c1,c2,c3]:=D.aL (λb O=>by obtain⟨ac,au,aY,_⟩:=a1 b O;exact⟨ac,ad,aY⟩) _ _ (D.aS F _ _ cZ);have cm:Sl X (λb=>B<=b/\b<X.heap.size/\b≠N) (some ⟨w.heap.size,0,none⟩) 1 ([R].map ew):=⟨rfl,λ_=>⟨w.heap.size,0,[c0,c1,c2,c3],rfl,⟨m,ad,ad⟩,by simp only[Lq,LK];exact D.bm.2 cg,λj u hu=>by
  rw[LF,aT.cell];simpa using hu⟩⟩
 have d:∀b∈bt I (q.hn+1) aK,b≠N:=λb O=>by
  rcases r b O with ac|ac
  .exact λhe=>h.ne (he▸bz b ac)
  .omega
 have e:Own X 68 1 I (q.hn+1) aK (xs++[.slice (some ⟨w.heap.size,0,none⟩) 1 1]) (bt I (q.hn+1) aK):=ba.al λb O=>by rw[<-hX];exact aR (d b O)
 refine⟨⟨⟨?_,?_,?_⟩,h.st.g.cap,h.st.t.cap,ba.cap⟩,?_,?_⟩
 .exact(h.st.g.al λb O=>i b (by simp only[Lt];exact .inl O)).sl (cx _) (by rw[Lo];exact h.st.gl.symm) λb O=>a b (by simp only[Lt];exact .inl O)
 .exact(h.st.t.al λb O=>i b (by simp only[Lt];exact .inr (.inl O))).sl (dA _) (by rw[Lo];exact h.st.tl.symm) λb O=>a b (by simp only[Lt];exact .inr (.inl O))
 .have hold:D.aQ X (λb=>B<=b/\b<X.heap.size/\b≠N) (s.threads.map jW) xs:=(h.st.hs.al oK.al λb O=>i b (by simp only[Lt];exact .inr (.inr O))).aQ oK.rep λb O=>a b (by simp only[Lt];exact .inr (.inr O));refine e.sl (l:=(s.threads++[[R]]).map jW) (by rw[Lr];exact D.cI hold (D.bm.2 (eV.2 ⟨_,1,1,rfl,Lk _,cm⟩))) (by simp[h.st.hl]) λb O=>?_;refine⟨?_,(e.lt b O),d b O⟩;rcases r b O with ac|ac
  .exact(h.lo b (bz b ac)).1
  .omega
 .have:=(h.o.aj aN).on J λaY=>h.ne (bz _ aY);rw[<-hX];exact this.aM 2 _
 .rw[<-hX];exact Fr.setCell (Fr.trans (Fr.mono aN λ_ h=>h.elim) (Fr.mono J λb O=>(h.lo b (bz b O)).1)) (.inl h.go) _
theorem dC.push(h:dC B w s N q xs F1 F2 bT b2){k:Nat}(bA:s.threads[k]?=some (fs++[f])):
  ∃O cj fc b3,q.HA=some ⟨O,0,none⟩/\k<q.hn/\O∈F1++(F2++(bT++b2))/\cj∈F1++(F2++(bT++b2))/\O<w.heap.size/\cj<w.heap.size/\B<=O/\B<=cj/\O≠cj/\O≠N/\cj≠N/\(∀j,w.frozen? ⟨O,j,none⟩=false)/\w.cell? ⟨O,k,none⟩=some (.slice (some ⟨cj,0,none⟩) (fs.length+1) fc)/\
   Own w 72 4 (some ⟨cj,0,none⟩) (fs.length+1) fc b3 [cj]/\
   ∀(R:ak) (cs:List Value) (P:Nat->Prop) (I:L3) (aK:Nat) (aU X:World),(ew R).rep w P cs->(∀b,P b->B<=b/\b<w.heap.size/\b≠N/\b∉F1++(F2++(bT++b2)))->
    Own aU 72 4 I (fs.length+2) aK (b3++cs) (bt I (fs.length+2) aK)->Fr (λb=>b=cj) w aU->(∀b∈bt I (fs.length+2) aK,b=cj\/(w.heap.size<=b/\b<aU.heap.size))->
    aU.setCell ⟨O,k,none⟩ (.slice I (fs.length+2) aK)=X->
    q.Is X (λb=>B<=b/\b<X.heap.size/\b≠N) {s with threads:=s.threads.set k (fs++[f]++[R])}/\aq X N 40 (q.val s)/\Fr (λb=>B<=b) w X:=by
 obtain⟨Z,x,a4,U,G,g,bo,aa,E,aL,cC⟩:=h.st.hs.E7 bA;obtain⟨FA,n,c,b3,e6,bE,rfl,rfl,ct,bn,J⟩:=aL;have db:Z.length=k:=by have:=E.len oK.len;rw[List.length_take,Nat.mul_one] at this;have:=(List.getElem?_eq_some_iff.1 bA).1;omega
 have aV:k<s.threads.length:=(List.getElem?_eq_some_iff.1 bA).1;have bH:k<q.hn:=by rw[h.st.hl];exact aV
 obtain rfl:n=fs.length+1:=by simpa using ct
 obtain⟨cj,rfl,rfl,cg,aB,bI,bG⟩:=bn.block ad;obtain⟨O,mO,a2,cl,o,t,A⟩:=h.st.h.block ad;subst aa a2;have nd:=h.st.nd;have nf:∀b∈(F1++(F2++([O]++U)))++(bE++g),b≠cj:=eJ (by simpa[Ly] using nd);have z:∀b∈(F1++F2)++(U++(cj::(bE++g))),b≠O:=eJ (by simpa[Ly] using nd);have l:O∈F1++(F2++([O]++(U++(([cj]++bE)++g)))):=by simp
 have bF:cj∈F1++(F2++([O]++(U++(([cj]++bE)++g)))):=by simp
 have ck:=o k (.slice (some ⟨cj,0,none⟩) (fs.length+1) c) (by rw[bo,List.getElem?_append_right ad,db,Nat.sub_self];rfl);refine⟨O,cj,c,b3,mO,bH,l,bF,cl,cg,(h.lo _ l).1,(h.lo _ bF).1,nf O (by simp),λhe=>h.ne (he▸l),λhe=>h.ne (he▸bF),t,ck,bn,?_⟩;intro R cs P I aK aU X cZ a1 ba cd r hX;have bN:=cd.size;have H:X.heap.size=aU.heap.size:=by rw[<-hX];simp[World.setCell]
 have y:∀b,b<w.heap.size->b≠O->b≠cj->X.heap[b]?=w.heap[b]?:=λb al bf aY=>by
  rw[<-hX];exact(aR bf).trans (cd.block b al aY)
 have mem:∀b,b∈F1++(F2++(U++(bE++g)))->b∈F1++(F2++([O]++(U++(([cj]++bE)++g)))):=λb O=>by
  simp only[Lt] at O ⊢;rcases O with O|O|O|O|O
  .exact .inl O
  .exact .inr (.inl O)
  .exact .inr (.inr (.inr (.inl O)))
  .exact .inr (.inr (.inr (.inr (.inl (.inr O)))))
  .exact .inr (.inr (.inr (.inr (.inr O))))
 have i:∀b∈F1++(F2++(U++(bE++g))),X.heap[b]?=w.heap[b]?:=λb O=>by
  refine y b (h.lo b (mem b O)).2 (z b ?_) (nf b ?_)
  .simp only[Lt,LC] at O ⊢;rcases O with O|O|O|O|O<;>simp[O]
  .simp only[Lt] at O ⊢;rcases O with O|O|O|O|O<;>simp[O]
 have a:∀b,b∈F1++(F2++(U++(bE++g)))->B<=b/\b<X.heap.size/\b≠N:=λb O=>⟨(h.lo b (mem b O)).1,by have:=(h.lo b (mem b O)).2;omega,λhe=>h.ne (he▸mem b O)⟩
 have F:∀b,P b->X.heap[b]?=w.heap[b]?:=λb aT=>by
  obtain⟨_,au,aY,bR⟩:=a1 b aT;exact y b au (λhe=>bR (he▸l)) (λhe=>bR (he▸bF))
 have cT:=h.o.lt;have d:∀b∈bt I (fs.length+2) aK,b≠N/\b≠O:=λb aT=>by
  rcases r b aT with ac|ac
  .rw[ac];exact⟨λhe=>h.ne (he▸bF),λhe=>nf O (by simp) he.symm⟩
  .exact⟨ad,ad⟩
 have e:Own X 72 4 I (fs.length+2) aK (b3++cs) (bt I (fs.length+2) aK):=ba.al λb aT=>by rw[<-hX];exact aR (d b aT).2
 have u:(ew R).rep X (λb=>B<=b/\b<X.heap.size/\b≠N) cs:=D.aL (λb O=>by obtain⟨ac,au,aY,_⟩:=a1 b O;exact⟨ac,ad,aY⟩) _ _ (D.aS F _ _ cZ);have v:D.aQ X (λb=>B<=b/\b<X.heap.size/\b≠N) ((fs++[f]).map ew) b3:=(J.al pE.al λb O=>i b (by simp[O])).aQ pE.rep λb O=>a b (by simp[O]);have C:Sl X (λb=>B<=b/\b<X.heap.size/\b≠N) I (fs.length+2) ((fs++[f]++[R]).map ew):=e.sl (by rw[Lr];exact D.cI v (D.bm.2 u)) (by simp) λb aT=>⟨by
  rcases r b aT with ac|ac
  .rw[ac];exact(h.lo _ bF).1
  .have:=h.go;omega,e.lt b aT,(d b aT).1⟩
 refine⟨⟨⟨?_,?_,?_⟩,h.st.g.cap,h.st.t.cap,h.st.h.cap⟩,?_,?_⟩
 .exact(h.st.g.al λb O=>i b (by simp only[Lt];exact .inl O)).sl (cx _) (by simp[h.st.gl]) λb O=>a b (by simp only[Lt];exact .inl O)
 .exact(h.st.t.al λb O=>i b (by simp only[Lt];exact .inr (.inl O))).sl (dA _) (by simp[h.st.tl]) λb O=>a b (by simp only[Lt];exact .inr (.inl O))
 ·
  have wC:Own X 68 1 q.HA q.hn q.hc (xs.set k (.slice I (fs.length+2) aK)) [O]:=by
   have ac:Own aU 68 1 q.HA q.hn q.hc xs [O]:=h.st.h.al λb aT=>cd.block b (aD (LO.1 aT)) (by have:=LO.1 aT;rw[this];exact nf O (by simp));obtain⟨bj,he,bL,_,_,_,L⟩:=ac.block ad;have:bj=O:=by rw[mO] at he;injection he with he;injection he with he _;exact he.symm
   subst this;rw[<-hX];exact L k _ ad
  have m:D.aQ X (λb=>B<=b/\b<X.heap.size/\b≠N) ((s.threads.set k (fs++[f]++[R])).map jW) (xs.set k (.slice I (fs.length+2) aK)):=by
   have e1:xs.set k (.slice I (fs.length+2) aK)=Z++([.slice I (fs.length+2) aK]++a4):=by
    rw[bo,List.set_append_right _ _ ad,db,Nat.sub_self];rfl
   have e2:s.threads.set k (fs++[f]++[R])=s.threads.take k++((fs++[f]++[R])::s.threads.drop (k+1)):=List.set_eq_take_append_cons_drop.trans (by rw[if_pos aV]);rw[e1,e2,Lr,Lq];refine D.cI ((E.al oK.al λb O=>i b (by simp[O])).aQ oK.rep λb O=>a b (by simp[O])) ?_;simp only[D.aQ];exact⟨_,_,rfl,eV.2 ⟨_,_,_,rfl,e.cap,C⟩,(cC.al oK.al λb O=>i b (by simp[O])).aQ oK.rep λb O=>a b (by simp[O])⟩
  exact wC.sl m (by simp[h.st.hl]) λb aT=>by rw[LO.1 aT];exact⟨(h.lo _ l).1,ad,λhe=>h.ne (he▸l)⟩
 .have:=h.o.on cd λhe=>h.ne (he▸bF);rw[<-hX];exact this.JN (λhe=>h.ne (he▸l)) _
 .rw[<-hX];exact Fr.setCell (Fr.mono cd λb aT=>by rw[aT];exact(h.lo _ bF).1) (.inl (h.lo _ l).1) _
end
end Go.Proofs.YtkhnkojkplbioaaGreat
