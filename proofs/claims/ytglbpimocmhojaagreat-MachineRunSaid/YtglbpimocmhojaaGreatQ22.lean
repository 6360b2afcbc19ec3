/- Part 22 of the proof. No condition of its own. -/
import Derived.Test.YtglbpimocmhojaaGreatQ21
namespace Go.Proofs.YtglbpimocmhojaaGreat
open Go.RowKit Go.Proofs.Tryz
set_option maxRecDepth 1000000
set_option maxHeartbeats 25600000
set_option linter.unusedVariables false
variable{a:Act}{ops:Array Oper}{Q:Exit->Act->World->Prop}{t:Int}{fs:List al}{bytes size:Nat}{o:Oper}{P:Program}{p:Prop}{e:TypeId}{z:Value}{S:World}{R f:al}
def GO(w:World)(a b:List Int×Int)(e:Ending)(ab:World):Prop:=
 (a.2≠0->e=.returned (.tuple #[.slice none 0 0,.slice none 0 0,.int .i64 a.2])/\Ext w ab)/\
 (a.2=0->b.2≠0->e=.returned (.tuple #[.slice none 0 0,.slice none 0 0,.int .i64 b.2])/\Ext w ab)/\
 (a.2=0->b.2=0->∃A n c I aP aJ,e=.returned (.tuple #[.slice A n c,.slice I aP aJ,.int .i64 0])/\n<=c/\aP<=aJ/\Sl ab (fresh w ab) A n (a.1.map D.i)/\Sl ab (fresh w ab) I aP (b.1.map D.i)/\Ext w ab)
def vQ(g l:List Int)(es:List VE)(k:Nat):Prop:=∀e∈es.take k,(ev g l e).2=0
theorem nn{g l:List Int}:∀{es:List VE},(∀e∈es,(ev g l e).2=0)->cM g l es=(es.map λe=>(ev g l e).1,0)
 | [],_=>rfl
 | e::es,h=>by
  have ac:=h e (by simp);have au:=nn (es:=es) λx hx=>h x (by simp[hx]);unfold cM;rw[if_neg ad,au,if_neg (by simp)];rfl
theorem nj{g l:List Int}:∀{es:List VE} {k:Nat} {e:VE},vQ g l es k->es[k]?=some e->(ev g l e).2≠0->cM g l es=([],(ev g l e).2)
 | [],k,e,_,h,_=>by simp at h
 | x::es,0,e,_,h,O=>by
  simp at h;subst h;unfold cM
  rw[if_pos O]
 | x::es,k+1,e,hu,h,O=>by
  have ac:(ev g l x).2=0:=hu x (by simp);have au:=nj (es:=es) (k:=k) (e:=e) (λy bb=>hu y (by simp[bb])) (by simpa using h) O;unfold cM;rw[if_neg ad,au,if_pos O]
theorem lZ{u:ay}{s:aj}{f:al}:∀{ps:List bQ},(∀p∈ps,(bF u s f p).2=0)->bZ u s f ps=(ps.map λp=>(bF u s f p).1,0)
 | [],_=>rfl
 | p::ps,h=>by
  have ac:=h p (by simp);have au:=lZ (ps:=ps) λx hx=>h x (by simp[hx]);unfold bZ;rw[if_neg ad,au,if_neg (by simp)];rfl
theorem lY{u:ay}{s:aj}{f:al}:∀{ps:List bQ} {k:Nat} {p:bQ},(∀x∈ps.take k,(bF u s f x).2=0)->ps[k]?=some p->(bF u s f p).2≠0->bZ u s f ps=([],(bF u s f p).2)
 | [],k,p,_,h,_=>by simp at h
 | x::ps,0,p,_,h,O=>by
  simp at h;subst h;unfold bZ
  rw[if_pos O]
 | x::ps,k+1,p,hu,h,O=>by
  have ac:(bF u s f x).2=0:=hu x (by simp);have au:=lY (ps:=ps) (k:=k) (p:=p) (λy bb=>hu y (by simp[bb])) (by simpa using h) O;unfold bZ;rw[if_neg ad,au,if_pos O]
theorem jO.args{u:ay}{s:aj}{cq:cH}{x:az}{N:Nat}(h:jO u s t f cq x N)(cx:x.op=2\/x.op=3):(∀e∈x.ints,gf (bx u) cq.locals e)/\(∀p∈x.places,cU (bx u) cq.locals cq.au p)/\
  0<=x.target/\∃pc,u.procs[x.target.toNat]?=some pc/\(x.ints.length:Int)=pc.ints/\(x.places.length:Int)=pc.au/\qh (bx u) pc:=by
 obtain⟨len,_,an⟩:=h.ok;rcases an with⟨ac,_⟩|⟨_,_,sg,au,aU,bE,cF,aY,j⟩|⟨ac,_⟩|⟨ac,_⟩|⟨ac,_⟩|⟨ac,_⟩
 .omega
 .refine⟨aY,j,au,?_⟩;simp only[bx,List.getElem?_map] at aU
  cases bv:u.procs[x.target.toNat]? with
  | none=>rw[bv] at aU;cases aU
  | some r=>
   rw[bv] at aU;simp only[Option.map_some,Lg] at aU;subst aU;exact⟨r,rfl,bE,cF,h.hU.ok.procs r (KG bv)⟩
 .omega
 .omega
 .omega
 .omega
namespace Ch
theorem sk(h:p:=by
 have bB:=ah bb Q;clear bb Q cR Z bj O aw hG T J;go_upto_region 6 with(fail);generalize hU:World.alloc _ _=U;have cl:=aX hU;have cY:=aK hU;have bi:=aW.2.2.2.trans cl;have cz:=aD cl bi (D.on bB.2 (Fr.ext cl));have I:=(ag.2.2.2.2.2.2.2.on bi)
 have cw:=I.lf;have f2:=I.c2;obtain⟨d0,aL,aM⟩:=cY.two;obtain⟨a8,am,aF⟩:=(ag.2.2.1.ai bi).two;have X:=ae I;clear hU cl cY bi I c0 c1 c2 c3 aV;refine eK (λ_=>False) [(0,0),(1,3),(2,0),(3,3),(4,3),(5,3),(6,0),(7,2),(8,3),(9,3),(10,3),(11,3),(12,3)] ?_;refine ph ?_;refine pf ?_;refine ph ?_
 iterate 3 refine pf ?_
 refine ph ?_;refine ax rfl (λK hK=>?_);go_simp;have aa:Ext U U.drew:=(Fr.refl _ U).drew;refine(oW ex U.drew bR IA bV i bC ic s.globals f.ints _ _ _ _ (aQ.1.E5 (aQ.2.1 ex (KG bB.1)) ((ag.2.2.2.2.2.1.on cz.2.1).on aa).at_.g (X.on aa).ints (D.on cz.2.2 (Fr.ext aa))).1).mono ?_;rintro e aT ⟨rfl,bg⟩;have a4:=ae (show Ext U aT from Fr.aF (Fr.of bg));have an:=λbt=>nj (k:=k) aW.2.2.1 bB.1 bt;generalize ar:ev s.globals f.ints ex=R at *;obtain⟨r,z⟩:=R;have b1:=ah an ar;clear an ar bg aa d0 aL aM a8 am aF f2 cw X;refine dO hK ?_;clear hK K
 iterate 5 refine pf ?_
 refine aE ?_;by_cases bt:z=0
 .have q5:(z != 0)=false:=by simpa using bt
  have L:=(aW.2.1.ai cz.1).ai a4.o;have bN:=cz.1.size;have cO:=a4.size;obtain⟨P,bf⟩:=aH L bt;clear bt L;go_wp2_with(at_builtin;refine bP de rfl (.tmp 46) (.tmp 48) rfl P.o (d:=D.i r) (cs:=#[.int .i64 r]) (by simp only[D.rep]) rfl rfl rfl ad ad ad ?_;intro cC c3 bX ca g2 cT c8;have b4:=ah ca g2;clear ca g2 cT c8);have br:∀b,(Value.slice A k c).ownBlock=some b->aS.heap.size<=b:=λb O=>(P.lt O).1;have a7:Ext aS bX:=Fr.low (M:=λb=>(Value.slice A k c).ownBlock=some b) (Fr.trans (Fr.mono ((aW.1.trans cz.1).trans a4.o) λ_ h=>h.elim) b4.2) λb O=>br b O;have a9:=ae a7;clear br a7;go_roundw
  case rel=>
   refine⟨k+1,cC,c3,rfl,by go_num,ad,a9.o,?_,λe he=>?_⟩
   .rw[aZ bB.1,KK,KK];have ac:=b4.1;exact r0
   .rw[aZ bB.1] at he;rcases KM.1 he with he|he
    .exact aW.2.2.1 e he
    .rw[Lf.1 he,b1.2];exact bf.o
  case measure=>exact aG
 .have q5:(z != 0)=true:=by simpa using bt
  have bT:=ae (b1.1 bt);have bf:=ae bt;clear bt;go_wp2_with(fail)
  go_ret3
  have V:Ext w aT:=((ag.1.trans aW.2.2.2).trans cz.1).trans a4.o;refine⟨λh=>⟨?_,V⟩,λh=>absurd h ?_,λh=>absurd h ?_⟩
  .rw[bT.o];rfl
  .rw[bT.o];exact bf.o
  .rw[bT.o];exact bf.o
 ):p:=h
theorem hv(h:p:=by
 obtain⟨eo,en,es,EA,em,ec,QA,qm,qc,dg,j,c9,KA,dj,kc⟩:=v;obtain⟨bm,bn,ch,c5,n,fc,IA,i,ic,S,l,lc,e,hT⟩:=hs.at_.top h.sm h.ht;simp only at e;subst e;obtain⟨cj,cp,_⟩:=h.args cx;have aU:x.ints.length=j:=by have:=bI.ints.1;simpa using this
 have bc:x.places.length=dj:=by have:=bI.places.1;simpa using this
 have cF:j<=200:=by have:=h.il;omega
 have cI:dj<=200:=by have:=h.kl;omega
 have aQ:=cK h cj cp aU bc;have cc:=bL hu hs bI hT;clear h cj cp aU bc hu hs bI hT;dsimp only[UV.val,SV.val,IV.val];go_enter func75,ntmps75;go_upto_region 1 with(fail);generalize ba:World.alloc _ _=W;have aw:=lF ba;have b6:=jo ba;have ce:=ir ba;have a5:=jq ba;have ag:=o5 aw b6 ce a5 (cc.1.on aw) (cc.2.1.on aw) (cc.2.2.1.on aw) (cc.2.2.2.on aw);obtain⟨a8,am,aF⟩:=ce.two;clear ba aw b6 ce a5 cc;go_wp2_with(fail);refine(k2 ag.2.2.2.2.2.2.2 _ _ _).mono ?_;rintro e aS ⟨rfl,aN⟩;have bu:=ae aN;clear a8 am aF;obtain⟨d0,aL,aM⟩:=(ag.2.2.2.1.ai aN).two;clear aN;have m0:=bu.size;have cZ:=ag.1.size;go_wp2_with(fail);clear d0 aL aM;go_loopw [11,28] (λsv cu wr=>∃(k:Nat) (A:Lp) (c:Nat),sv=.slice A k c/\cu=.int .i64 k/\k<=j/\Ext aS wr/\Gr (λ_=>False) aS.heap.size 3 1 wr A k c (((x.ints.take k).map λe=>(ev s.globals f.ints e).1).map D.i)/\vQ s.globals f.ints x.ints k) (λ_ cu _=>j - (intOf cu).toNat)
 case atStart=>exact⟨0,none,0,rfl,rfl,ad,Ll,Gr.nil _ _ _ _ _,λe he=>by simp at he⟩
 case round=>
  obtain⟨k,A,c,rfl,rfl,ap,aw,hG,T⟩:=hrel;have J:=bu.trans aw;have aW:=bL aw hG T J;have ds:=aw.size;by_cases ak:k<j
  .obtain⟨b,o,ex,cs,rfl,O,bb,Q,bj,Z⟩:=(ag.2.2.2.2.2.2.1.ints.on (Fr.ext J)).g0 c7 ak;exact sj
  .obtain rfl:k=j:=ad;have y:cM s.globals f.ints x.ints=(x.ints.map λe=>(ev s.globals f.ints e).1,0):=nn λe he=>T e (by rw[KL (aC aQ.2.2.2.1)];exact he);have cf:Sl wr (λb=>aS.heap.size<=b/\b<wr.heap.size) A k ((cM s.globals f.ints x.ints).1.map D.i):=by
    have a2:=hG;rw[KL (aC aQ.2.2.2.1)] at a2;rw[y];exact a2.sl (λb _ h=>h.elim) λb ak O=>⟨O,ak⟩
   have b3:=hG.cap.1;obtain⟨cL,rfl⟩:∃cL,cL=wr:=⟨wr,rfl⟩
   have HA:=aD cf b3 y;obtain⟨d0,aL,aM⟩:=(ag.2.2.2.1.ai J).two;clear aw hG T J y cf b3;go_wp2_with(fail);clear d0 aL aM;go_loopw [12,54] (λsv cu wr=>∃(m:Nat) (B:Lp) (aJ:Nat),sv=.slice B m aJ/\cu=.int .i64 m/\m<=dj/\Ext cL wr/\Gr (λ_=>False) cL.heap.size 3 1 wr B m aJ (((x.places.take m).map λp=>(bF u s f p).1).map D.i)/\∀p∈x.places.take m,(bF u s f p).2=0) (λ_ cu _=>dj - (intOf cu).toNat)
   case atStart=>exact⟨0,none,0,rfl,rfl,ad,Ll,Gr.nil _ _ _ _ _,λe he=>by simp at he⟩
   case round=>
    obtain⟨m,B,aJ,rfl,rfl,hm,aw,hG,T⟩:=hrel;have J:=aW.2.2.2.trans aw;have bU:=bL aw hG T J;have bS:=aw.size;by_cases dq:m<dj
    .obtain⟨b,o,pl,cU,b8,zc,rfl,O,bb,cr,cy,cd,bo,cQ⟩:=(ag.2.2.2.2.2.2.1.places.on (Fr.ext J)).oM dq;have aV:b<wr.heap.size:=O;have bB:=aD bb bo cQ;clear bb bo cQ O aw hG T J;go_upto_region 14 with(fail);generalize hU:World.alloc _ _=U;have cl:=aX hU;have cY:=aK hU;have bi:=bU.2.2.2.trans cl;have cz:=aD cl bi (dT.2 ⟨cU,b8,zc,rfl,bB.2.1,bB.2.2.on (Fr.ext cl)⟩:(di pl).rep U (av U) [.bool pl.param,.int .i64 pl.index,.slice cU b8 zc]);obtain⟨d0,aL,aM⟩:=cY.two;obtain⟨a8,am,aF⟩:=(ag.2.2.1.ai bi).two;obtain⟨a0,ai,af⟩:=(ag.2.1.ai bi).two;clear hU cl cY bi cr cy cd aV;go_wp2_with(fail);refine(pT u s t f pl N U ⟨GA,gn,gc,MA,mn,mc,PA,pn,pc⟩ ⟨bR,bV,bC,TA,tn,tc,some ⟨bm,bn,none⟩,hn,hc⟩ cU b8 zc ⟨aQ.1.hU.ok,aQ.1.hS,aQ.1.sm,aQ.1.ht,⟨cq,aQ.1.hp,aQ.2.2.1 pl (KG bB.1)⟩,ag.2.2.2.2.1.on cz.2.1,ag.2.2.2.2.2.1.on cz.2.1,cz.2.2⟩).mono ?_;rintro e aT ⟨rfl,bg⟩;rw[iw aQ.1.ht];have a4:=ae (show Ext U aT from Fr.of bg);have an:=λbt=>lY (k:=m) bU.2.2.1 bB.1 bt;generalize ar:bF u s f pl=R at *;obtain⟨r,z⟩:=R;have b1:=ah an ar;clear an ar bg d0 aL aM a8 am aF a0 ai af;by_cases bt:z=0
     .have q5:(z != 0)=false:=by simpa using bt
      have L:=(bU.2.1.ai cz.1).ai a4.o;have bN:=cz.1.size;have cO:=a4.size;obtain⟨P,bf⟩:=aH L bt;clear bt L;go_wp2_with(at_builtin;refine bP de rfl (.tmp 69) (.tmp 71) rfl P.o (d:=D.i r) (cs:=#[.int .i64 r]) (by simp only[D.rep]) rfl rfl rfl ad ad ad ?_;intro cC c3 bX ca g2 cT c8;have b4:=ah ca g2;clear ca g2 cT c8);have br:∀b,(Value.slice B m aJ).ownBlock=some b->cL.heap.size<=b:=λb O=>(P.lt O).1;have a7:Ext cL bX:=Fr.low (M:=λb=>(Value.slice B m aJ).ownBlock=some b) (Fr.trans (Fr.mono ((bU.1.trans cz.1).trans a4.o) λ_ h=>h.elim) b4.2) λb O=>br b O;have a9:=ae a7;clear br a7;go_roundw
      case rel=>
       refine⟨m+1,cC,c3,rfl,by go_num,ad,a9.o,?_,λe he=>?_⟩
       .rw[aZ bB.1,KK,KK];have ac:=b4.1;exact r0
       .rw[aZ bB.1] at he;rcases KM.1 he with he|he
        .exact bU.2.2.1 e he
        .rw[Lf.1 he,b1.2];exact bf.o
      case measure=>exact aG
     .have q5:(z != 0)=true:=by simpa using bt
      have bT:=ae (b1.1 bt);have bf:=ae bt;clear bt;go_wp2_with(fail)
      go_ret3
      have V:Ext w aT:=((ag.1.trans bU.2.2.2).trans cz.1).trans a4.o;refine⟨λh=>absurd ?_ h,λ_ h=>⟨?_,V⟩,λ_ h=>absurd h ?_⟩
      .rw[HA.2.2]
      .rw[bT.o];rfl
      .rw[bT.o];exact bf.o
    .obtain rfl:m=dj:=ad;have y:bZ u s f x.places=(x.places.map λp=>(bF u s f p).1,0):=lZ λe he=>T e (by rw[KL (aC aQ.2.2.2.2)];exact he);have cf:Sl wr (fresh w wr) B m ((bZ u s f x.places).1.map D.i):=by
      have a2:=hG;rw[KL (aC aQ.2.2.2.2)] at a2;rw[y];exact a2.sl (λb _ h=>h.elim) λb ak O=>⟨ad,ak⟩
     have b3:=hG.cap.1;have b9:=aD cf b3 y;clear aw hG T J y cf b3;go_wp2_with(fail)
     go_ret3
     refine⟨λh=>absurd ?_ h,λ_ h=>absurd ?_ h,λ_ _=>⟨A,k,c,B,m,aJ,rfl,HA.2.1,b9.2.1,(HA.1.ak λb O=>bU.1.block b O.2 λh=>h).mono λb O=>⟨by have:=O.1;omega,by have:=O.2;omega⟩,b9.1,ag.1.trans bU.2.2.2⟩⟩
     .rw[HA.2.2]
     .rw[b9.2.2]
 ):p:=h
end Ch
open Ch in
theorem vW(u:ay)(s:aj)(t:Int)(f:al)(cq:cH)(x:az)(N:Nat)(w:World)(p:UV)(q:SV)(v:IV)(h:jO u s t f cq x N)(cx:x.op=2\/x.op=3)(hu:p.Ok w u)(hs:q.Ok w s)(bI:v.Ok w x) :
  Calls prog 75 #[.agg (p.val u),.agg (q.val s),.int .i64 t,.agg (v.val x)] w (GO w (cM s.globals f.ints x.ints) (bZ u s f x.places)):=by
 exact hr
theorem xW{t:TypeId}{K:Act->World->Prop}(bw:ch P t e z size bytes)(s x:Operand)
  (bn:o.op=.call {callee:=.builtin .append,args:=#[s,x],argTypes:=#[t,t]})
  {A:Lp} {n c g:Nat} {xs:List Value} {F:List Nat} (h0:Own S e size A n c xs F) {cs:Array Value} {i:TypeId} (aR:aq S g i cs)
  (hs:a.eval s=.slice A n c) (hx:a.eval x=.slice (some ⟨g,0,none⟩) 1 1) (T:cs.size=size) (ac:∀u∈cs.toList,u.oneCell'=true)
  (r:(n+1)*bytes<=140737488355328) (y:n+1<=140737488355328)
  (h:∀I aJ ab,Own ab e size I (n+1) aJ (xs++cs.toList) (bq I (n+1) aJ)->Fr (λb=>b∈F) S ab->(∀b∈bq I (n+1) aJ,b∈F\/(S.heap.size<=b/\b<ab.heap.size))->K (a.put o.dst (.slice I (n+1) aJ)) ab):o.wp P a S K Q:=by
 have ay:Src S size (some ⟨g,0,none⟩) 1 cs.toList:=⟨by simpa using T,ac,λ_=>⟨g,0,rfl,λj u bi=>by
  rw[KV,aR.cell];simpa using bi⟩⟩
 refine j8 _ bw s x bn 0 _ n xs hs h0.row _ 1 1 cs.toList hx ay r y (KZ _) (λh=>nomatch h) λG ab bO cV H=>?_;obtain⟨I,aJ,rfl,hc,_⟩:=b1 bO;refine h I aJ ab ⟨bO,rfl⟩ (Ll.grown cV λg a2=>.inl (by rw[h0.eq];simp[a2])) λb O=>?_;have aV:(Value.slice I (n+1) aJ).ownBlock=some b:=by simpa using O
 rcases H with H|H
 .rw[H] at aV;exact .inl (by rw[h0.eq];simp[aV])
 .have:=(bO.lt b aV).2;rw[H] at aV;injection aV with aV;right;omega
theorem l4{R:World->World->Prop}{rest:List (Nat×Nat)}{W:World}(C:World->Prop)(hC:C W)(h:∀V,C V->b5 P ops Q R rest a V):b5 P ops Q R rest a W:=h W hC
theorem ud{s:aj}{a6:al}(h:s.threads[t.toNat]?=some (fs++[f])):qi (bs s t a6) t R={s with threads:=(s.threads.set t.toNat (fs++[a6])).set t.toNat (fs++[a6]++[R])}:=by
 rw[dZ h];unfold qi;have ak:=(List.getElem?_eq_some_iff.1 h).1;rw[k1 (x:=fs++[a6]) (by simp[ak])]
theorem mZ{t:TypeId}{rest:List Oper}(bw:ch P t e z size bytes)(i:o.guard=none)(s x:Operand)
  (bn:o.op=.call {callee:=.builtin .append,args:=#[s,x],argTypes:=#[t,t]})
  {A:Lp} {n c g:Nat} {xs:List Value} {F:List Nat} (h0:Own S e size A n c xs F) {cs:Array Value}
  (hs:a.eval s=.slice A n c) (hx:a.eval x=.slice (some ⟨g,0,none⟩) 1 1) (a2:g=S.heap.size) (T:cs.size=size) (ac:∀u∈cs.toList,u.oneCell'=true)
  (r:(n+1)*bytes<=140737488355328) (y:n+1<=140737488355328)
  (h:∀I aJ ab,Own ab e size I (n+1) aJ (xs++cs.toList) (bq I (n+1) aJ)->Fr (λb=>b∈F) S ab->(∀b∈bq I (n+1) aJ,b∈F\/(S.heap.size<=b/\b<ab.heap.size))->wpList P ops Q rest (a.put o.dst (.slice I (n+1) aJ)) ab):wpList P ops Q (o::rest) a (S.alloc (.cells cs e)):=by
 subst a2;exact ob bw i s x bn h0 hs hx T ac r y h
section
variable {B:Nat} {w ab:World} {s:aj} {N:Nat} {q:SV} {xs:List Value} {F1 F2 bK bP:List Nat}
theorem ka.Ei{α:Type}{E:World->α->List Value->List Nat->Prop}{w:World}:∀{l:List α} {xs:List Value} {F:List Nat},ka E w l xs F->∀{k:Nat} {a:α},l[k]?=some a->
  ∃Z x bA F1 f F2,xs=Z++(x++bA)/\F=F1++(f++F2)/\ka E w (l.take k) Z F1/\E w a x f/\ka E w (l.drop (k+1)) bA F2
 | [],_,_,_,k,a,ap=>by simp at ap
 | b::l,xs,F,h,0,a,ap=>by
  obtain⟨x,y,F1,F2,rfl,rfl,ac,au⟩:=h;simp only[List.getElem?_cons_zero,Lg] at ap;subst ap
  exact⟨[],x,y,[],F1,F2,rfl,rfl,⟨rfl,rfl⟩,ac,au⟩
 | b::l,xs,F,h,k+1,a,ap=>by
  obtain⟨bs,y,g,R,rfl,rfl,ac,au⟩:=h;simp only[List.getElem?_cons_succ] at ap;obtain⟨Z,x,bA,F1,f,F2,rfl,rfl,aU,bE,cF⟩:=ka.Ei au ap;exact⟨bs++Z,x,bA,g++F1,f,F2,by simp,by simp,⟨bs,Z,g,F1,rfl,rfl,ac,aU⟩,bE,cF⟩
theorem pS{α β:Type}(g:α->β):∀(l:List α) (k:Nat) (x:α),(l.set k x).map g=(l.map g).set k (g x)
 | [],_,_=>rfl
 | _::_,0,_=>rfl
 | a::l,k+1,x=>by simp[pS g l k x]
theorem dy.start(h:dy B w s N q xs F1 F2 bK bP){c0 c1 c2 c3:Value}{P:Nat->Prop}(cX:(er R).rep w P [c0,c1,c2,c3])(aZ:∀b,P b->B<=b/\b<w.heap.size/\b≠N/\b∉F1++(F2++(bK++bP)))
  {aS aT X:World} (ao:w.alloc (.cells #[c0,c1,c2,c3] 75)=aS) {I:Lp} {aJ:Nat}
  (a5:Own aT 79 1 I (q.hn+1) aJ (xs++[.slice (some ⟨w.heap.size,0,none⟩) 1 1]) (bq I (q.hn+1) aJ)) (J:Fr (λb=>b∈bK) aS aT) (r:∀b∈bq I (q.hn+1) aJ,b∈bK\/(aS.heap.size<=b/\b<aT.heap.size))
  (hX:aT.setCell ⟨N,2,none⟩ (.slice I (q.hn+1) aJ)=X) :
  let ar:SV:=⟨q.GA,q.gn,q.gc,q.TA,q.tn,q.tc,I,q.hn+1,aJ⟩
  let Q:aj:={s with threads:=s.threads++[[R]]}
  ar.Is X (λb=>B<=b/\b<X.heap.size/\b≠N) Q/\aq X N 40 (ar.val Q)/\Fr (λb=>B<=b) w X:=by
 intro ar Q;have dF:aS.heap.size=w.heap.size+1:=by rw[<-ao];simp
 have aN:=aX ao;have v:=aK ao;have bN:=J.size;have H:X.heap.size=aT.heap.size:=by rw[<-hX];simp[World.setCell]
 have nd:=h.st.nd;have n1:=v7.1 nd;have d3:∀b∈F1++(F2++bP),b∉bK:=λb O aU=>(List.nodup_append.1 n1).2.2 b aU b O rfl;have cM:∀b,b∈bK->b∈F1++(F2++(bK++bP)):=λb O=>by simp[O]
 have bn:∀b,b∈F1++(F2++bP)->b∈F1++(F2++(bK++bP)):=λb O=>by
  exact za
 have y:∀b,b<aS.heap.size->b≠N->b∉bK->X.heap[b]?=aS.heap[b]?:=λb ak be aU=>by
  rw[<-hX];exact(aR be).trans (J.block b ak aU)
 have i:∀b∈F1++(F2++bP),X.heap[b]?=w.heap[b]?:=λb O=>by
  have hl:=(h.lo b (bn b O)).2;exact(y b ad (λhe=>h.ne (he▸bn b O)) (d3 b O)).trans (aN.block b hl λh=>h)
 have a:∀b,b∈F1++(F2++bP)->B<=b/\b<X.heap.size/\b≠N:=λb O=>⟨(h.lo b (bn b O)).1,by have:=(h.lo b (bn b O)).2;omega,λhe=>h.ne (he▸bn b O)⟩
 have c8:=h.o.lt;have F:∀b,P b->X.heap[b]?=w.heap[b]?:=λb O=>by
  obtain⟨_,au,aU,bE⟩:=aZ b O;exact(y b ad aU (λcF=>bE (cM b cF))).trans (aN.block b au λh=>h)
 have m:B<=w.heap.size:=by have:=h.go;omega
 have cw:aq X w.heap.size 75 #[c0,c1,c2,c3]:=(y _ ad ad (λcF=>by have:=(h.lo _ (cM _ cF)).2;omega)).trans v;have cd:(er R).rep X (λb=>B<=b/\b<X.heap.size/\b≠N) [c0,c1,c2,c3]:=D.aL (λb O=>by obtain⟨ac,au,aU,_⟩:=aZ b O;exact⟨ac,ad,aU⟩) _ _ (D.aS F _ _ cX);have cf:Sl X (λb=>B<=b/\b<X.heap.size/\b≠N) (some ⟨w.heap.size,0,none⟩) 1 ([R].map er):=⟨rfl,λ_=>⟨w.heap.size,0,[c0,c1,c2,c3],rfl,⟨m,ad,ad⟩,by simp only[KJ,Lb];exact D.bj.2 cd,λj u hu=>by
  rw[KV,cw.cell];simpa using hu⟩⟩
 have d:∀b∈bq I (q.hn+1) aJ,b≠N:=λb O=>by
  rcases r b O with ac|ac
  .exact λhe=>h.ne (he▸cM b ac)
  .omega
 have e:Own X 79 1 I (q.hn+1) aJ (xs++[.slice (some ⟨w.heap.size,0,none⟩) 1 1]) (bq I (q.hn+1) aJ):=a5.ak λb O=>by rw[<-hX];exact aR (d b O)
 refine⟨⟨⟨?_,?_,?_⟩,h.st.g.cap,h.st.t.cap,a5.cap⟩,?_,?_⟩
 .exact(h.st.g.ak λb O=>i b (by simp only[KM];exact .inl O)).sl (ct _) (by rw[KH];exact h.st.gl.symm) λb O=>a b (by simp only[KM];exact .inl O)
 .exact(h.st.t.ak λb O=>i b (by simp only[KM];exact .inr (.inl O))).sl (dw _) (by rw[KH];exact h.st.tl.symm) λb O=>a b (by simp only[KM];exact .inr (.inl O))
 .have hold:D.aQ X (λb=>B<=b/\b<X.heap.size/\b≠N) (s.threads.map jP) xs:=(h.st.hs.ak og.ak λb O=>i b (by simp only[KM];exact .inr (.inr O))).aQ og.rep λb O=>a b (by simp only[KM];exact .inr (.inr O));refine e.sl (l:=(s.threads++[[R]]).map jP) (by rw[KK];exact D.cG hold (D.bj.2 (eS.2 ⟨_,1,1,rfl,KD _,cf⟩))) (by simp[h.st.hl]) λb O=>?_;refine⟨?_,(e.lt b O),d b O⟩;rcases r b O with ac|ac
  .exact(h.lo b (cM b ac)).1
  .omega
 .have:=(h.o.ai aN).on J λaU=>h.ne (cM _ aU);rw[<-hX];exact this.aM 2 _
 .rw[<-hX];exact Fr.setCell (Fr.trans (Fr.mono aN λ_ h=>h.elim) (Fr.mono J λb O=>(h.lo b (cM b O)).1)) (.inl h.go) _
theorem dy.push(h:dy B w s N q xs F1 F2 bK bP){k:Nat}(bv:s.threads[k]?=some (fs++[f])):
  ∃O ch fc cN,q.HA=some ⟨O,0,none⟩/\k<q.hn/\O∈F1++(F2++(bK++bP))/\ch∈F1++(F2++(bK++bP))/\O<w.heap.size/\ch<w.heap.size/\B<=O/\B<=ch/\O≠ch/\O≠N/\ch≠N/\(∀j,w.frozen? ⟨O,j,none⟩=false)/\w.cell? ⟨O,k,none⟩=some (.slice (some ⟨ch,0,none⟩) (fs.length+1) fc)/\
   Own w 75 4 (some ⟨ch,0,none⟩) (fs.length+1) fc cN [ch]/\
   ∀(R:al) (cs:List Value) (P:Nat->Prop) (I:Lp) (aJ:Nat) (aT X:World),(er R).rep w P cs->(∀b,P b->B<=b/\b<w.heap.size/\b≠N/\b∉F1++(F2++(bK++bP)))->
    Own aT 75 4 I (fs.length+2) aJ (cN++cs) (bq I (fs.length+2) aJ)->Fr (λb=>b=ch) w aT->(∀b∈bq I (fs.length+2) aJ,b=ch\/(w.heap.size<=b/\b<aT.heap.size))->
    aT.setCell ⟨O,k,none⟩ (.slice I (fs.length+2) aJ)=X->
    q.Is X (λb=>B<=b/\b<X.heap.size/\b≠N) {s with threads:=s.threads.set k (fs++[f]++[R])}/\aq X N 40 (q.val s)/\Fr (λb=>B<=b) w X:=by
 obtain⟨Z,x,bA,U,G,g,ca,aa,E,aL,cD⟩:=h.st.hs.Ei bv;obtain⟨FA,n,c,cN,e4,bC,rfl,rfl,co,bn,J⟩:=aL;have dQ:Z.length=k:=by have:=E.len og.len;rw[List.length_take,Nat.mul_one] at this;have:=(List.getElem?_eq_some_iff.1 bv).1;omega
 have bc:k<s.threads.length:=(List.getElem?_eq_some_iff.1 bv).1;have cm:k<q.hn:=by rw[h.st.hl];exact bc
 obtain rfl:n=fs.length+1:=by simpa using co
 obtain⟨ch,rfl,rfl,cd,aB,ag,bW⟩:=bn.block ad;obtain⟨O,mB,aY,bG,o,t,A⟩:=h.st.h.block ad;subst aa aY;have nd:=h.st.nd;have nf:∀b∈(F1++(F2++([O]++U)))++(bC++g),b≠ch:=eF (by simpa[KR] using nd);have z:∀b∈(F1++F2)++(U++(ch::(bC++g))),b≠O:=eF (by simpa[KR] using nd);have l:O∈F1++(F2++([O]++(U++(([ch]++bC)++g)))):=by simp
 have bz:ch∈F1++(F2++([O]++(U++(([ch]++bC)++g)))):=by simp
 have a4:=o k (.slice (some ⟨ch,0,none⟩) (fs.length+1) c) (by rw[ca,List.getElem?_append_right ad,dQ,Nat.sub_self];rfl);refine⟨O,ch,c,cN,mB,cm,l,bz,bG,cd,(h.lo _ l).1,(h.lo _ bz).1,nf O (by simp),λhe=>h.ne (he▸l),λhe=>h.ne (he▸bz),t,a4,bn,?_⟩;intro R cs P I aJ aT X cX aZ a5 cb r hX;have bN:=cb.size;have H:X.heap.size=aT.heap.size:=by rw[<-hX];simp[World.setCell]
 have y:∀b,b<w.heap.size->b≠O->b≠ch->X.heap[b]?=w.heap[b]?:=λb ak be aU=>by
  rw[<-hX];exact(aR be).trans (cb.block b ak aU)
 have mem:∀b,b∈F1++(F2++(U++(bC++g)))->b∈F1++(F2++([O]++(U++(([ch]++bC)++g)))):=λb O=>by
  simp only[KM] at O ⊢;rcases O with O|O|O|O|O
  .exact .inl O
  .exact .inr (.inl O)
  .exact .inr (.inr (.inr (.inl O)))
  .exact .inr (.inr (.inr (.inr (.inl (.inr O)))))
  .exact .inr (.inr (.inr (.inr (.inr O))))
 have i:∀b∈F1++(F2++(U++(bC++g))),X.heap[b]?=w.heap[b]?:=λb O=>by
  refine y b (h.lo b (mem b O)).2 (z b ?_) (nf b ?_)
  .simp only[KM,KT] at O ⊢;rcases O with O|O|O|O|O<;>simp[O]
  .simp only[KM] at O ⊢;rcases O with O|O|O|O|O<;>simp[O]
 have a:∀b,b∈F1++(F2++(U++(bC++g)))->B<=b/\b<X.heap.size/\b≠N:=λb O=>⟨(h.lo b (mem b O)).1,by have:=(h.lo b (mem b O)).2;omega,λhe=>h.ne (he▸mem b O)⟩
 have F:∀b,P b->X.heap[b]?=w.heap[b]?:=λb aV=>by
  obtain⟨_,au,aU,bE⟩:=aZ b aV;exact y b au (λhe=>bE (he▸l)) (λhe=>bE (he▸bz))
 have c8:=h.o.lt;have d:∀b∈bq I (fs.length+2) aJ,b≠N/\b≠O:=λb aV=>by
  rcases r b aV with ac|ac
  .rw[ac];exact⟨λhe=>h.ne (he▸bz),λhe=>nf O (by simp) he.symm⟩
  .exact⟨ad,ad⟩
 have e:Own X 75 4 I (fs.length+2) aJ (cN++cs) (bq I (fs.length+2) aJ):=a5.ak λb aV=>by rw[<-hX];exact aR (d b aV).2
 have u:(er R).rep X (λb=>B<=b/\b<X.heap.size/\b≠N) cs:=D.aL (λb O=>by obtain⟨ac,au,aU,_⟩:=aZ b O;exact⟨ac,ad,aU⟩) _ _ (D.aS F _ _ cX);have v:D.aQ X (λb=>B<=b/\b<X.heap.size/\b≠N) ((fs++[f]).map er) cN:=(J.ak oY.ak λb O=>i b (by simp[O])).aQ oY.rep λb O=>a b (by simp[O]);have C:Sl X (λb=>B<=b/\b<X.heap.size/\b≠N) I (fs.length+2) ((fs++[f]++[R]).map er):=e.sl (by rw[KK];exact D.cG v (D.bj.2 u)) (by simp) λb aV=>⟨by
  rcases r b aV with ac|ac
  .rw[ac];exact(h.lo _ bz).1
  .have:=h.go;omega,e.lt b aV,(d b aV).1⟩
 refine⟨⟨⟨?_,?_,?_⟩,h.st.g.cap,h.st.t.cap,h.st.h.cap⟩,?_,?_⟩
 .exact(h.st.g.ak λb O=>i b (by simp only[KM];exact .inl O)).sl (ct _) (by simp[h.st.gl]) λb O=>a b (by simp only[KM];exact .inl O)
 .exact(h.st.t.ak λb O=>i b (by simp only[KM];exact .inr (.inl O))).sl (dw _) (by simp[h.st.tl]) λb O=>a b (by simp only[KM];exact .inr (.inl O))
 ·
  have vM:Own X 79 1 q.HA q.hn q.hc (xs.set k (.slice I (fs.length+2) aJ)) [O]:=by
   have ac:Own aT 79 1 q.HA q.hn q.hc xs [O]:=h.st.h.ak λb aV=>cb.block b (aC (Lf.1 aV)) (by have:=Lf.1 aV;rw[this];exact nf O (by simp));obtain⟨bg,he,bw,_,_,_,L⟩:=ac.block ad;have:bg=O:=by rw[mB] at he;injection he with he;injection he with he _;exact he.symm
   subst this;rw[<-hX];exact L k _ ad
  have m:D.aQ X (λb=>B<=b/\b<X.heap.size/\b≠N) ((s.threads.set k (fs++[f]++[R])).map jP) (xs.set k (.slice I (fs.length+2) aJ)):=by
   have e1:xs.set k (.slice I (fs.length+2) aJ)=Z++([.slice I (fs.length+2) aJ]++bA):=by
    rw[ca,List.set_append_right _ _ ad,dQ,Nat.sub_self];rfl
   have e2:s.threads.set k (fs++[f]++[R])=s.threads.take k++((fs++[f]++[R])::s.threads.drop (k+1)):=List.set_eq_take_append_cons_drop.trans (by rw[if_pos bc]);rw[e1,e2,KK,KJ];refine D.cG ((E.ak og.ak λb O=>i b (by simp[O])).aQ og.rep λb O=>a b (by simp[O])) ?_;simp only[D.aQ];exact⟨_,_,rfl,eS.2 ⟨_,_,_,rfl,e.cap,C⟩,(cD.ak og.ak λb O=>i b (by simp[O])).aQ og.rep λb O=>a b (by simp[O])⟩
  exact vM.sl m (by simp[h.st.hl]) λb aV=>by rw[Lf.1 aV];exact⟨(h.lo _ l).1,ad,λhe=>h.ne (he▸l)⟩
 .have:=h.o.on cb λhe=>h.ne (he▸bz);rw[<-hX];exact this.I6 (λhe=>h.ne (he▸l)) _
 .rw[<-hX];exact Fr.setCell (Fr.mono cb λb aV=>by rw[aV];exact(h.lo _ bz).1) (.inl (h.lo _ l).1) _
end
end Go.Proofs.YtglbpimocmhojaaGreat
