/- Part 14 of the proof. No condition of its own. -/
import Derived.Test.YtpkfopfkdgkfkaaGreatQ13
namespace Go.Proofs.YtpkfopfkdgkfkaaGreat
open Go.RowKit Go.Proofs.Tryz
set_option maxRecDepth 1000000
set_option maxHeartbeats 25600000
set_option linter.unusedVariables false
variable{a:Act}{ops:Array Oper}{Q:Exit->Act->World->Prop}{t:Int}{fs:List al}{bytes size:Nat}{o:Oper}{P:Program}{p:Prop}{e:TypeId}{z:Value}{S:World}{u:aA}{x:aC}{R f:al}
def HX(w:World)(a b:List Int×Int)(e:Ending)(ab:World):Prop:=
 (a.2≠0->e=.returned (.tuple #[.slice none 0 0,.slice none 0 0,.int .i64 a.2])/\Ext w ab)/\
 (a.2=0->b.2≠0->e=.returned (.tuple #[.slice none 0 0,.slice none 0 0,.int .i64 b.2])/\Ext w ab)/\
 (a.2=0->b.2=0->∃A n c I a6 aE,e=.returned (.tuple #[.slice A n c,.slice I a6 aE,.int .i64 0])/\n<=c/\a6<=aE/\Sl ab (fresh w ab) A n (a.1.map D.i)/\Sl ab (fresh w ab) I a6 (b.1.map D.i)/\Ext w ab)
def wy(g l:List Int)(es:List VE)(k:Nat):Prop:=∀e∈es.take k,(ev g l e).2=0
theorem nz{g l:List Int}:∀{es:List VE},(∀e∈es,(ev g l e).2=0)->cR g l es=(es.map λe=>(ev g l e).1,0)
 | [],_=>rfl
 | e::es,h=>by
  have ac:=h e (by simp);have ap:=nz (es:=es) λx hx=>h x (by simp[hx]);unfold cR;rw[if_neg ad,ap,if_neg (by simp)];rfl
theorem ny{g l:List Int}:∀{es:List VE} {k:Nat} {e:VE},wy g l es k->es[k]?=some e->(ev g l e).2≠0->cR g l es=([],(ev g l e).2)
 | [],k,e,_,h,_=>by simp at h
 | x::es,0,e,_,h,O=>by
  simp at h;subst h;unfold cR
  rw[if_pos O]
 | x::es,k+1,e,hu,h,O=>by
  have ac:(ev g l x).2=0:=hu x (by simp);have ap:=ny (es:=es) (k:=k) (e:=e) (λy bb=>hu y (by simp[bb])) (by simpa using h) O;unfold cR;rw[if_neg ad,ap,if_pos O]
theorem l9{u:aA}{s:ak}{f:al}:∀{ps:List bU},(∀p∈ps,(bH u s f p).2=0)->b1 u s f ps=(ps.map λp=>(bH u s f p).1,0)
 | [],_=>rfl
 | p::ps,h=>by
  have ac:=h p (by simp);have ap:=l9 (ps:=ps) λx hx=>h x (by simp[hx]);unfold b1;rw[if_neg ad,ap,if_neg (by simp)];rfl
theorem l8{u:aA}{s:ak}{f:al}:∀{ps:List bU} {k:Nat} {p:bU},(∀x∈ps.take k,(bH u s f x).2=0)->ps[k]?=some p->(bH u s f p).2≠0->b1 u s f ps=([],(bH u s f p).2)
 | [],k,p,_,h,_=>by simp at h
 | x::ps,0,p,_,h,O=>by
  simp at h;subst h;unfold b1
  rw[if_pos O]
 | x::ps,k+1,p,hu,h,O=>by
  have ac:(bH u s f x).2=0:=hu x (by simp);have ap:=l8 (ps:=ps) (k:=k) (p:=p) (λy bb=>hu y (by simp[bb])) (by simpa using h) O;unfold b1;rw[if_neg ad,ap,if_pos O]
theorem jX.args{s:ak}{cn:cM}{N:Nat}(h:jX u s t f cn x N)(cw:x.op=2\/x.op=3):(∀e∈x.ints,gw (bx u) cn.locals e)/\(∀p∈x.places,c4 (bx u) cn.locals cn.an p)/\
  0<=x.target/\∃pc,u.procs[x.target.toNat]?=some pc/\(x.ints.length:Int)=pc.ints/\(x.places.length:Int)=pc.an/\qu (bx u) pc:=by
 obtain⟨len,_,aX⟩:=h.ok;rcases aX with⟨ac,_⟩|⟨_,_,sg,ap,aV,bz,cI,bM,j⟩|⟨ac,_⟩|⟨ac,_⟩|⟨ac,_⟩|⟨ac,_⟩
 .omega
 .refine⟨bM,j,ap,?_⟩;simp only[bx,List.getElem?_map] at aV
  cases bK:u.procs[x.target.toNat]? with
  | none=>rw[bK] at aV;cases aV
  | some r=>
   rw[bK] at aV;simp only[Option.map_some,Mj] at aV;subst aV;exact⟨r,rfl,bz,cI,h.hU.ok.procs r (LN bK)⟩
 .omega
 .omega
 .omega
 .omega
namespace CE
theorem sH(h:p:=by
 have bC:=ag bb bR;clear bb bR c4 a4 bh O aw hG P J;go_upto_region 6 with(fail);generalize hU:World.alloc _ _=U;have cr:=aU hU;have c8:=aI hU;have bg:=a3.2.2.2.trans cr;have cB:=az cr bg (D.on bC.2 (Fr.ext cr));have I:=(ah.2.2.2.2.2.2.2.on bg)
 have cy:=I.lf;have f2:=I.c2;obtain⟨d0,aK,aM⟩:=c8.two;obtain⟨bq,am,aG⟩:=(ah.2.2.1.aj bg).two;have V:=ae I;clear hU cr c8 bg I c0 c1 c2 c3 a1;refine eJ (λ_=>False) [(0,0),(1,3),(2,0),(3,3),(4,3),(5,3),(6,0),(7,2),(8,3),(9,3),(10,3),(11,3),(12,3)] ?_;refine ph ?_;refine pf ?_;refine ph ?_
 iterate 3 refine pf ?_
 refine ph ?_;refine ax rfl (λK hK=>?_);go_simp;have aB:Ext U U.drew:=(Fr.refl _ U).drew;refine(pq ex U.drew bV IA bW i bD ic s.globals f.ints _ _ _ _ (aN.1.Gj (aN.2.1 ex (LN bC.1)) ((ah.2.2.2.2.2.1.on cB.2.1).on aB).at_.g (V.on aB).ints (D.on cB.2.2 (Fr.ext aB))).1).mono ?_;rintro e aT ⟨rfl,bj⟩;have a8:=ae (show Ext U aT from Fr.aG (Fr.of bj));have Q:=λaL=>ny (k:=k) a3.2.2.1 bC.1 aL;generalize ar:ev s.globals f.ints ex=R at *;obtain⟨r,z⟩:=R;have b9:=ag Q ar;clear Q ar bj aB d0 aK aM bq am aG f2 cy V;refine dX hK ?_;clear hK K
 iterate 5 refine pf ?_
 refine aF ?_;by_cases aL:z=0
 .have q5:(z != 0)=false:=by simpa using aL
  have L:=(a3.2.1.aj cB.1).aj a8.o;have bS:=cB.1.size;have cQ:=a8.size;obtain⟨Z,bk⟩:=aJ L aL;clear aL L;go_wp2_with(at_builtin;refine bL cF rfl (.tmp 46) (.tmp 48) rfl Z.o (d:=D.i r) (cs:=#[.int .i64 r]) (by simp only[D.rep]) rfl rfl rfl ad ad ad ?_;intro cC c3 b7 bT g2 cP db;have bX:=ag bT g2;clear bT g2 cP db);have bv:∀b,(Value.slice A k c).ownBlock=some b->aS.heap.size<=b:=λb O=>(Z.lt O).1;have a7:Ext aS b7:=Fr.low (M:=λb=>(Value.slice A k c).ownBlock=some b) (Fr.trans (Fr.mono ((a3.1.trans cB.1).trans a8.o) λ_ h=>h.elim) bX.2) λb O=>bv b O;have cd:=ae a7;clear bv a7;go_roundw
  case rel=>
   refine⟨k+1,cC,c3,rfl,by go_num,ad,cd.o,?_,λe he=>?_⟩
   .rw[aY bC.1,LR,LR];have ac:=bX.1;exact sn
   .rw[aY bC.1] at he;rcases LU.1 he with he|he
    .exact a3.2.2.1 e he
    .rw[Mi.1 he,b9.2];exact bk.o
  case measure=>exact aH
 .have q5:(z != 0)=true:=by simpa using aL
  have b3:=ae (b9.1 aL);have bk:=ae aL;clear aL;go_wp2_with(fail)
  go_ret3
  have S:Ext w aT:=((ah.1.trans a3.2.2.2).trans cB.1).trans a8.o;refine⟨λh=>⟨?_,S⟩,λh=>absurd h ?_,λh=>absurd h ?_⟩
  .rw[b3.o];rfl
  .rw[b3.o];exact bk.o
  .rw[b3.o];exact bk.o
 ):p:=h
theorem gS(h:p:=by
 obtain⟨eo,en,es,EA,em,ec,QA,qm,qc,dn,j,dj,KA,cO,kc⟩:=v;obtain⟨bf,bn,cm,da,n,fc,IA,i,ic,bw,l,lc,e,hT⟩:=hs.at_.top h.sm h.ht;simp only at e;subst e;obtain⟨ch,cj,_⟩:=h.args cw;have bt:x.ints.length=j:=by have:=bE.ints.1;simpa using this
 have bP:x.places.length=cO:=by have:=bE.places.1;simpa using this
 have cz:j<=200:=by have:=h.il;omega
 have cI:cO<=200:=by have:=h.kl;omega
 have aN:=cL h ch cj bt bP;have cc:=bF hu hs bE hT;clear h ch cj bt bP hu hs bE hT;dsimp only[UV.val,SV.val,IV.val];go_enter func98,ntmps98;go_upto_region 1 with(fail);generalize ba:World.alloc _ _=W;have aw:=lD ba;have bZ:=jx ba;have ck:=h6 ba;have a5:=jy ba;have ah:=px aw bZ ck a5 (cc.1.on aw) (cc.2.1.on aw) (cc.2.2.1.on aw) (cc.2.2.2.on aw);obtain⟨bq,am,aG⟩:=ck.two;clear ba aw bZ ck a5 cc;go_wp2_with(fail);refine(lq ah.2.2.2.2.2.2.2 _ _ _).mono ?_;rintro e aS ⟨rfl,aO⟩;have bB:=ae aO;clear bq am aG;obtain⟨d0,aK,aM⟩:=(ah.2.2.2.1.aj aO).two;clear aO;have od:=bB.size;have cN:=ah.1.size;go_wp2_with(fail);clear d0 aK aM;go_loopw [11,28] (λsv cA wr=>∃(k:Nat) (A:Mt) (c:Nat),sv=.slice A k c/\cA=.int .i64 k/\k<=j/\Ext aS wr/\Gr (λ_=>False) aS 3 1 wr A k c (((x.ints.take k).map λe=>(ev s.globals f.ints e).1).map D.i)/\wy s.globals f.ints x.ints k) (λ_ cA _=>j - (intOf cA).toNat)
 case atStart=>exact⟨0,none,0,rfl,rfl,ad,Mo,Gr.nil _ _ _ _ _,λe he=>by simp at he⟩
 case round=>
  obtain⟨k,A,c,rfl,rfl,aj,aw,hG,P⟩:=hrel;have J:=bB.trans aw;have a3:=bF aw hG P J;have cl:=aw.size;by_cases an:k<j
  .obtain⟨b,o,ex,cs,rfl,O,bb,bR,bh,a4⟩:=(ah.2.2.2.2.2.2.1.ints.on (Fr.ext J)).hf df an;exact sG
  .obtain rfl:k=j:=ad;have y:cR s.globals f.ints x.ints=(x.ints.map λe=>(ev s.globals f.ints e).1,0):=nz λe he=>P e (by rw[LS (ay aN.2.2.2.1)];exact he);have cf:Sl wr (λb=>aS.heap.size<=b/\b<wr.heap.size) A k ((cR s.globals f.ints x.ints).1.map D.i):=by
    have aR:=hG;rw[LS (ay aN.2.2.2.1)] at aR;rw[y];exact aR.sl (λb _ h=>h.elim) λb an O=>⟨O,an⟩
   have bm:=hG.cap.1;obtain⟨T,rfl⟩:∃T,T=wr:=⟨wr,rfl⟩
   have HA:=az cf bm y;obtain⟨d0,aK,aM⟩:=(ah.2.2.2.1.aj J).two;clear aw hG P J y cf bm;go_wp2_with(fail);clear d0 aK aM;go_loopw [12,54] (λsv cA wr=>∃(m:Nat) (B:Mt) (aE:Nat),sv=.slice B m aE/\cA=.int .i64 m/\m<=cO/\Ext T wr/\Gr (λ_=>False) T 3 1 wr B m aE (((x.places.take m).map λp=>(bH u s f p).1).map D.i)/\∀p∈x.places.take m,(bH u s f p).2=0) (λ_ cA _=>cO - (intOf cA).toNat)
   case atStart=>exact⟨0,none,0,rfl,rfl,ad,Mo,Gr.nil _ _ _ _ _,λe he=>by simp at he⟩
   case round=>
    obtain⟨m,B,aE,rfl,rfl,hm,aw,hG,P⟩:=hrel;have J:=a3.2.2.2.trans aw;have bN:=bF aw hG P J;have cG:=aw.size;by_cases cg:m<cO
    .obtain⟨b,o,pl,b4,ci,zc,rfl,O,bb,cK,cp,cX,bO,cU⟩:=(ah.2.2.2.2.2.2.1.places.on (Fr.ext J)).o5 cg;have a1:b<wr:=O;have bC:=az bb bO cU;clear bb bO cU O aw hG P J;go_upto_region 14 with(fail);generalize hU:World.alloc _ _=U;have cr:=aU hU;have c8:=aI hU;have bg:=bN.2.2.2.trans cr;have cB:=az cr bg (eh.2 ⟨b4,ci,zc,rfl,bC.2.1,bC.2.2.on (Fr.ext cr)⟩:(dy pl).rep U (aq U) [.bool pl.param,.int .i64 pl.index,.slice b4 ci zc]);obtain⟨d0,aK,aM⟩:=c8.two;obtain⟨bq,am,aG⟩:=(ah.2.2.1.aj bg).two;obtain⟨a0,ai,af⟩:=(ah.2.1.aj bg).two;clear hU cr c8 bg cK cp cX a1;go_wp2_with(fail);refine(qe u s t f pl N U ⟨GA,gn,gc,MA,mn,mc,PA,pn,pc⟩ ⟨bV,bW,bD,TA,tn,tc,some ⟨bf,bn,none⟩,hn,hc⟩ b4 ci zc ⟨aN.1.hU.ok,aN.1.hS,aN.1.sm,aN.1.ht,⟨cn,aN.1.hp,aN.2.2.1 pl (LN bC.1)⟩,ah.2.2.2.2.1.on cB.2.1,ah.2.2.2.2.2.1.on cB.2.1,cB.2.2⟩).mono ?_;rintro e aT ⟨rfl,bj⟩;rw[iD aN.1.ht];have a8:=ae (show Ext U aT from Fr.of bj);have Q:=λaL=>l8 (k:=m) bN.2.2.1 bC.1 aL;generalize ar:bH u s f pl=R at *;obtain⟨r,z⟩:=R;have b9:=ag Q ar;clear Q ar bj d0 aK aM bq am aG a0 ai af;by_cases aL:z=0
     .have q5:(z != 0)=false:=by simpa using aL
      have L:=(bN.2.1.aj cB.1).aj a8.o;have bS:=cB.1.size;have cQ:=a8.size;obtain⟨Z,bk⟩:=aJ L aL;clear aL L;go_wp2_with(at_builtin;refine bL cF rfl (.tmp 69) (.tmp 71) rfl Z.o (d:=D.i r) (cs:=#[.int .i64 r]) (by simp only[D.rep]) rfl rfl rfl ad ad ad ?_;intro cC c3 b7 bT g2 cP db;have bX:=ag bT g2;clear bT g2 cP db);have bv:∀b,(Value.slice B m aE).ownBlock=some b->T.heap.size<=b:=λb O=>(Z.lt O).1;have a7:Ext T b7:=Fr.low (M:=λb=>(Value.slice B m aE).ownBlock=some b) (Fr.trans (Fr.mono ((bN.1.trans cB.1).trans a8.o) λ_ h=>h.elim) bX.2) λb O=>bv b O;have cd:=ae a7;clear bv a7;go_roundw
      case rel=>
       refine⟨m+1,cC,c3,rfl,by go_num,ad,cd.o,?_,λe he=>?_⟩
       .rw[aY bC.1,LR,LR];have ac:=bX.1;exact sn
       .rw[aY bC.1] at he;rcases LU.1 he with he|he
        .exact bN.2.2.1 e he
        .rw[Mi.1 he,b9.2];exact bk.o
      case measure=>exact aH
     .have q5:(z != 0)=true:=by simpa using aL
      have b3:=ae (b9.1 aL);have bk:=ae aL;clear aL;go_wp2_with(fail)
      go_ret3
      have S:Ext w aT:=((ah.1.trans bN.2.2.2).trans cB.1).trans a8.o;refine⟨λh=>absurd ?_ h,λ_ h=>⟨?_,S⟩,λ_ h=>absurd h ?_⟩
      .rw[HA.2.2]
      .rw[b3.o];rfl
      .rw[b3.o];exact bk.o
    .obtain rfl:m=cO:=ad;have y:b1 u s f x.places=(x.places.map λp=>(bH u s f p).1,0):=l9 λe he=>P e (by rw[LS (ay aN.2.2.2.2)];exact he);have cf:Sl wr (fresh w wr) B m ((b1 u s f x.places).1.map D.i):=by
      have aR:=hG;rw[LS (ay aN.2.2.2.2)] at aR;rw[y];exact aR.sl (λb _ h=>h.elim) λb an O=>⟨ad,an⟩
     have bm:=hG.cap.1;have b6:=az cf bm y;clear aw hG P J y cf bm;go_wp2_with(fail)
     go_ret3
     refine⟨λh=>absurd ?_ h,λ_ h=>absurd ?_ h,λ_ _=>⟨A,k,c,B,m,aE,rfl,HA.2.1,b6.2.1,(HA.1.ai λb O=>bN.1.block b O.2 λh=>h).mono λb O=>⟨by have:=O.1;omega,by have:=O.2;omega⟩,b6.1,ah.1.trans bN.2.2.2⟩⟩
     .rw[HA.2.2]
     .rw[b6.2.2]
 ):p:=h
end CE
open CE in
theorem wG(u:aA)(s:ak)(t:Int)(f:al)(cn:cM)(x:aC)(N:Nat)(w:World)(p:UV)(q:SV)(v:IV)(h:jX u s t f cn x N)(cw:x.op=2\/x.op=3)(hu:p.Ok w u)(hs:q.Ok w s)(bE:v.Ok w x) :
  Calls prog 98 #[.agg (p.val u),.agg (q.val s),t,.agg (v.val x)] w (HX w (cR s.globals f.ints x.ints) (b1 u s f x.places)):=by
 exact gR
theorem yv{t:TypeId}{K:Act->World->Prop}(bG:cn P t e z size bytes)(s x:Operand)
  (bn:o.op=.call {callee:=.builtin .append,args:=#[s,x],argTypes:=#[t,t]})
  {A:Mt} {n c g:Nat} {xs:List Value} {F:List Nat} (h0:Own S e size A n c xs F) {cs:Array Value} {f:TypeId} (aQ:au S g f cs)
  (hs:a.eval s=.slice A n c) (hx:a.eval x=.slice (some ⟨g,0,none⟩) 1 1) (T:cs.size=size) (ac:∀u∈cs.toList,u.oneCell'=true)
  (r:(n+1)*bytes<=140737488355328) (y:n+1<=140737488355328)
  (h:∀I aE ab,Own ab e size I (n+1) aE (xs++cs.toList) (br I (n+1) aE)->Fr (λb=>b∈F) S ab->(∀b∈br I (n+1) aE,b∈F\/(S.heap.size<=b/\b<ab.heap.size))->K (a.put o.dst (.slice I (n+1) aE)) ab):o.wp P a S K Q:=by
 have aA:Src S size (some ⟨g,0,none⟩) 1 cs.toList:=⟨by simpa using T,ac,λ_=>⟨g,0,rfl,λj u bd=>by
  rw[L8,aQ.cell];simpa using bd⟩⟩
 refine km _ bG s x bn 0 _ n xs hs h0.row _ 1 1 cs.toList hx aA r y (Md _) (λh=>nomatch h) λG ab bY b9 H=>?_;obtain⟨I,aE,rfl,hc,_⟩:=bT bY;refine h I aE ab ⟨bY,rfl⟩ (Mo.grown b9 λg aR=>.inl (by rw[h0.eq];simp[aR])) λb O=>?_;have a1:(Value.slice I (n+1) aE).ownBlock=some b:=by simpa using O
 rcases H with H|H
 .rw[H] at a1;exact .inl (by rw[h0.eq];simp[a1])
 .have:=(bY.lt b a1).2;rw[H] at a1;injection a1 with a1;right;omega
theorem mf{R:World->World->Prop}{rest:List (Nat×Nat)}{W:World}(C:World->Prop)(hC:C W)(h:∀V,C V->b9 P ops Q R rest a V):b9 P ops Q R rest a W:=h W hC
theorem uD{s:ak}{S:al}(h:s.threads[t.toNat]?=some (fs++[f])):qv (bt s t S) t R={s with threads:=(s.threads.set t.toNat (fs++[S])).set t.toNat (fs++[S]++[R])}:=by
 rw[et h];unfold qv;have an:=(List.getElem?_eq_some_iff.1 h).1;rw[lp (x:=fs++[S]) (by simp[an])]
theorem m9{t:TypeId}{rest:List Oper}(bG:cn P t e z size bytes)(i:o.guard=none)(s x:Operand)
  (bn:o.op=.call {callee:=.builtin .append,args:=#[s,x],argTypes:=#[t,t]})
  {A:Mt} {n c g:Nat} {xs:List Value} {F:List Nat} (h0:Own S e size A n c xs F) {cs:Array Value}
  (hs:a.eval s=.slice A n c) (hx:a.eval x=.slice (some ⟨g,0,none⟩) 1 1) (aR:g=S.heap.size) (T:cs.size=size) (ac:∀u∈cs.toList,u.oneCell'=true)
  (r:(n+1)*bytes<=140737488355328) (y:n+1<=140737488355328)
  (h:∀I aE ab,Own ab e size I (n+1) aE (xs++cs.toList) (br I (n+1) aE)->Fr (λb=>b∈F) S ab->(∀b∈br I (n+1) aE,b∈F\/(S.heap.size<=b/\b<ab.heap.size))->wpList P ops Q rest (a.put o.dst (.slice I (n+1) aE)) ab):wpList P ops Q (o::rest) a (S.alloc (.cells cs e)):=by
 subst aR;exact ov bG i s x bn h0 hs hx T ac r y h
section
variable {B:Nat} {w ab:World} {s:ak} {N:Nat} {q:SV} {xs:List Value} {F1 F2 bL cd:List Nat}
theorem ko.Fu{α:Type}{E:World->α->List Value->List Nat->Prop}{w:World}:∀{l:List α} {xs:List Value} {F:List Nat},ko E w l xs F->∀{k:Nat} {a:α},l[k]?=some a->
  ∃aK x a4 F1 g F2,xs=aK++(x++a4)/\F=F1++(g++F2)/\ko E w (l.take k) aK F1/\E w a x g/\ko E w (l.drop (k+1)) a4 F2
 | [],_,_,_,k,a,aj=>by simp at aj
 | b::l,xs,F,h,0,a,aj=>by
  obtain⟨x,y,F1,F2,rfl,rfl,ac,ap⟩:=h;simp only[List.getElem?_cons_zero,Mj] at aj;subst aj
  exact⟨[],x,y,[],F1,F2,rfl,rfl,⟨rfl,rfl⟩,ac,ap⟩
 | b::l,xs,F,h,k+1,a,aj=>by
  obtain⟨ci,y,i,S,rfl,rfl,ac,ap⟩:=h;simp only[List.getElem?_cons_succ] at aj;obtain⟨aK,x,a4,F1,g,F2,rfl,rfl,aV,bz,cI⟩:=ko.Fu ap aj;exact⟨ci++aK,x,a4,i++F1,g,F2,by simp,by simp,⟨ci,aK,i,F1,rfl,rfl,ac,aV⟩,bz,cI⟩
theorem qd{α β:Type}(g:α->β):∀(l:List α) (k:Nat) (x:α),(l.set k x).map g=(l.map g).set k (g x)
 | [],_,_=>rfl
 | _::_,0,_=>rfl
 | a::l,k+1,x=>by simp[qd g l k x]
theorem dI.start(h:dI B w s N q xs F1 F2 bL cd){c0 c1 c2 c3:Value}{P:Nat->Prop}(cY:(dh R).rep w P [c0,c1,c2,c3])(bg:∀b,P b->B<=b/\b<w.heap.size/\b≠N/\b∉F1++(F2++(bL++cd)))
  {aS aT X:World} (av:w.alloc (.cells #[c0,c1,c2,c3] 50)=aS) {I:Mt} {aE:Nat}
  (a5:Own aT 46 1 I (q.hn+1) aE (xs++[.slice (some ⟨w,0,none⟩) 1 1]) (br I (q.hn+1) aE)) (J:Fr (λb=>b∈bL) aS aT) (r:∀b∈br I (q.hn+1) aE,b∈bL\/(aS.heap.size<=b/\b<aT.heap.size))
  (hX:aT.setCell ⟨N,2,none⟩ (.slice I (q.hn+1) aE)=X) :
  let z:SV:=⟨q.GA,q.gn,q.gc,q.TA,q.tn,q.tc,I,q.hn+1,aE⟩
  let Q:ak:={s with threads:=s.threads++[[R]]}
  z.Is X (λb=>B<=b/\b<X.heap.size/\b≠N) Q/\au X N 26 (z.val Q)/\Fr (λb=>B<=b) w X:=by
 intro z Q;have dG:aS=w.heap.size+1:=by rw[<-av];simp
 have aO:=aU av;have v:=aI av;have bS:=J.size;have cr:X=aT.heap.size:=by rw[<-hX];simp[World.setCell]
 have nd:=h.st.nd;have n1:=wO.1 nd;have d3:∀b∈F1++(F2++cd),b∉bL:=λb O aV=>(List.nodup_append.1 n1).2.2 b aV b O rfl;have dt:∀b,b∈bL->b∈F1++(F2++(bL++cd)):=λb O=>by simp[O]
 have bQ:∀b,b∈F1++(F2++cd)->b∈F1++(F2++(bL++cd)):=λb O=>by
  exact zQ
 have y:∀b,b<aS.heap.size->b≠N->b∉bL->X.heap[b]?=aS.heap[b]?:=λb an bi aV=>by
  rw[<-hX];exact(aQ bi).trans (J.block b an aV)
 have i:∀b∈F1++(F2++cd),X.heap[b]?=w.heap[b]?:=λb O=>by
  have hl:=(h.lo b (bQ b O)).2;exact(y b ad (λhe=>h.ne (he▸bQ b O)) (d3 b O)).trans (aO.block b hl λh=>h)
 have a:∀b,b∈F1++(F2++cd)->B<=b/\b<X.heap.size/\b≠N:=λb O=>⟨(h.lo b (bQ b O)).1,by have:=(h.lo b (bQ b O)).2;omega,λhe=>h.ne (he▸bQ b O)⟩
 have cG:=h.o.lt;have G:∀b,P b->X.heap[b]?=w.heap[b]?:=λb O=>by
  obtain⟨_,ap,aV,bz⟩:=bg b O;exact(y b ad aV (λcI=>bz (dt b cI))).trans (aO.block b ap λh=>h)
 have eb:B<=w:=by have:=h.go;omega
 have c8:au X w 50 #[c0,c1,c2,c3]:=(y _ ad ad (λcI=>by have:=(h.lo _ (dt _ cI)).2;omega)).trans v;have ce:(dh R).rep X (λb=>B<=b/\b<X.heap.size/\b≠N) [c0,c1,c2,c3]:=D.aK (λb O=>by obtain⟨ac,ap,aV,_⟩:=bg b O;exact⟨ac,ad,aV⟩) _ _ (D.aS G _ _ cY);have cf:Sl X (λb=>B<=b/\b<X.heap.size/\b≠N) (some ⟨w,0,none⟩) 1 ([R].map dh):=⟨rfl,λ_=>⟨w,0,[c0,c1,c2,c3],rfl,⟨eb,ad,ad⟩,by simp only[LQ,Me];exact D.bg.2 ce,λj u hu=>by
  rw[L8,c8.cell];simpa using hu⟩⟩
 have d:∀b∈br I (q.hn+1) aE,b≠N:=λb O=>by
  rcases r b O with ac|ac
  .exact λhe=>h.ne (he▸dt b ac)
  .omega
 have e:Own X 46 1 I (q.hn+1) aE (xs++[.slice (some ⟨w,0,none⟩) 1 1]) (br I (q.hn+1) aE):=a5.ai λb O=>by rw[<-hX];exact aQ (d b O)
 refine⟨⟨⟨?_,?_,?_⟩,h.st.g.cap,h.st.t.cap,a5.cap⟩,?_,?_⟩
 .exact(h.st.g.ai λb O=>i b (by simp only[LU];exact .inl O)).sl (bX _) (by rw[LO];exact h.st.gl.symm) λb O=>a b (by simp only[LU];exact .inl O)
 .exact(h.st.t.ai λb O=>i b (by simp only[LU];exact .inr (.inl O))).sl (dH _) (by rw[LO];exact h.st.tl.symm) λb O=>a b (by simp only[LU];exact .inr (.inl O))
 .have hold:D.aM X (λb=>B<=b/\b<X.heap.size/\b≠N) (s.threads.map fI) xs:=(h.st.hs.ai oA.ai λb O=>i b (by simp only[LU];exact .inr (.inr O))).aM oA.rep λb O=>a b (by simp only[LU];exact .inr (.inr O));refine e.sl (l:=(s.threads++[[R]]).map fI) (by rw[LR];exact D.cA hold (D.bg.2 (dn.2 ⟨_,1,1,rfl,LK _,cf⟩))) (by simp[h.st.hl]) λb O=>?_;refine⟨?_,(e.lt b O),d b O⟩;rcases r b O with ac|ac
  .exact(h.lo b (dt b ac)).1
  .omega
 .have:=(h.o.aj aO).on J λaV=>h.ne (dt _ aV);rw[<-hX];exact this.aN 2 _
 .rw[<-hX];exact Fr.setCell (Fr.trans (Fr.mono aO λ_ h=>h.elim) (Fr.mono J λb O=>(h.lo b (dt b O)).1)) (.inl h.go) _
theorem dI.push(h:dI B w s N q xs F1 F2 bL cd){k:Nat}(bK:s.threads[k]?=some (fs++[f])):
  ∃O cm fc b0,q.HA=some ⟨O,0,none⟩/\k<q.hn/\O∈F1++(F2++(bL++cd))/\cm∈F1++(F2++(bL++cd))/\O<w.heap.size/\cm<w.heap.size/\B<=O/\B<=cm/\O≠cm/\O≠N/\cm≠N/\(∀j,w.frozen? ⟨O,j,none⟩=false)/\w.cell? ⟨O,k,none⟩=some (.slice (some ⟨cm,0,none⟩) (fs.length+1) fc)/\
   Own w 50 4 (some ⟨cm,0,none⟩) (fs.length+1) fc b0 [cm]/\
   ∀(R:al) (cs:List Value) (P:Nat->Prop) (I:Mt) (aE:Nat) (aT X:World),(dh R).rep w P cs->(∀b,P b->B<=b/\b<w.heap.size/\b≠N/\b∉F1++(F2++(bL++cd)))->
    Own aT 50 4 I (fs.length+2) aE (b0++cs) (br I (fs.length+2) aE)->Fr (λb=>b=cm) w aT->(∀b∈br I (fs.length+2) aE,b=cm\/(w.heap.size<=b/\b<aT.heap.size))->
    aT.setCell ⟨O,k,none⟩ (.slice I (fs.length+2) aE)=X->
    q.Is X (λb=>B<=b/\b<X.heap.size/\b≠N) {s with threads:=s.threads.set k (fs++[f]++[R])}/\au X N 26 (q.val s)/\Fr (λb=>B<=b) w X:=by
 obtain⟨aK,x,a4,ao,H,g,ck,z,F,aM,cF⟩:=h.st.hs.Fu bK;obtain⟨FA,n,c,b0,b2,bV,rfl,rfl,cu,bn,J⟩:=aM;have b6:aK.length=k:=by have:=F.len oA.len;rw[List.length_take,Nat.mul_one] at this;have:=(List.getElem?_eq_some_iff.1 bK).1;omega
 have bP:k<s.threads.length:=(List.getElem?_eq_some_iff.1 bK).1;have a8:k<q.hn:=by rw[h.st.hl];exact bP
 obtain rfl:n=fs.length+1:=by simpa using cu
 obtain⟨cm,rfl,rfl,ce,aJ,U,cI⟩:=bn.block ad;obtain⟨O,lH,a2,bB,o,t,C⟩:=h.st.h.block ad;subst z a2;have nd:=h.st.nd;have nf:∀b∈(F1++(F2++([O]++ao)))++(bV++g),b≠cm:=eQ (by simpa[L3] using nd);have A:∀b∈(F1++F2)++(ao++(cm::(bV++g))),b≠O:=eQ (by simpa[L3] using nd);have l:O∈F1++(F2++([O]++(ao++(([cm]++bV)++g)))):=by simp
 have bx:cm∈F1++(F2++([O]++(ao++(([cm]++bV)++g)))):=by simp
 have aZ:=o k (.slice (some ⟨cm,0,none⟩) (fs.length+1) c) (by rw[ck,List.getElem?_append_right ad,b6,Nat.sub_self];rfl);refine⟨O,cm,c,b0,lH,a8,l,bx,bB,ce,(h.lo _ l).1,(h.lo _ bx).1,nf O (by simp),λhe=>h.ne (he▸l),λhe=>h.ne (he▸bx),t,aZ,bn,?_⟩;intro R cs P I aE aT X cY bg a5 cg r hX;have bS:=cg.size;have cr:X=aT.heap.size:=by rw[<-hX];simp[World.setCell]
 have y:∀b,b<w.heap.size->b≠O->b≠cm->X.heap[b]?=w.heap[b]?:=λb an bi aV=>by
  rw[<-hX];exact(aQ bi).trans (cg.block b an aV)
 have mem:∀b,b∈F1++(F2++(ao++(bV++g)))->b∈F1++(F2++([O]++(ao++(([cm]++bV)++g)))):=λb O=>by
  simp only[LU] at O ⊢;rcases O with O|O|O|O|O
  .exact .inl O
  .exact .inr (.inl O)
  .exact .inr (.inr (.inr (.inl O)))
  .exact .inr (.inr (.inr (.inr (.inl (.inr O)))))
  .exact .inr (.inr (.inr (.inr (.inr O))))
 have i:∀b∈F1++(F2++(ao++(bV++g))),X.heap[b]?=w.heap[b]?:=λb O=>by
  refine y b (h.lo b (mem b O)).2 (A b ?_) (nf b ?_)
  .simp only[LU,L5] at O ⊢;rcases O with O|O|O|O|O<;>simp[O]
  .simp only[LU] at O ⊢;rcases O with O|O|O|O|O<;>simp[O]
 have a:∀b,b∈F1++(F2++(ao++(bV++g)))->B<=b/\b<X.heap.size/\b≠N:=λb O=>⟨(h.lo b (mem b O)).1,by have:=(h.lo b (mem b O)).2;omega,λhe=>h.ne (he▸mem b O)⟩
 have G:∀b,P b->X.heap[b]?=w.heap[b]?:=λb a1=>by
  obtain⟨_,ap,aV,bz⟩:=bg b a1;exact y b ap (λhe=>bz (he▸l)) (λhe=>bz (he▸bx))
 have cG:=h.o.lt;have d:∀b∈br I (fs.length+2) aE,b≠N/\b≠O:=λb a1=>by
  rcases r b a1 with ac|ac
  .rw[ac];exact⟨λhe=>h.ne (he▸bx),λhe=>nf O (by simp) he.symm⟩
  .exact⟨ad,ad⟩
 have e:Own X 50 4 I (fs.length+2) aE (b0++cs) (br I (fs.length+2) aE):=a5.ai λb a1=>by rw[<-hX];exact aQ (d b a1).2
 have u:(dh R).rep X (λb=>B<=b/\b<X.heap.size/\b≠N) cs:=D.aK (λb O=>by obtain⟨ac,ap,aV,_⟩:=bg b O;exact⟨ac,ad,aV⟩) _ _ (D.aS G _ _ cY);have v:D.aM X (λb=>B<=b/\b<X.heap.size/\b≠N) ((fs++[f]).map dh) b0:=(J.ai pt.ai λb O=>i b (by simp[O])).aM pt.rep λb O=>a b (by simp[O]);have E:Sl X (λb=>B<=b/\b<X.heap.size/\b≠N) I (fs.length+2) ((fs++[f]++[R]).map dh):=e.sl (by rw[LR];exact D.cA v (D.bg.2 u)) (by simp) λb a1=>⟨by
  rcases r b a1 with ac|ac
  .rw[ac];exact(h.lo _ bx).1
  .have:=h.go;omega,e.lt b a1,(d b a1).1⟩
 refine⟨⟨⟨?_,?_,?_⟩,h.st.g.cap,h.st.t.cap,h.st.h.cap⟩,?_,?_⟩
 .exact(h.st.g.ai λb O=>i b (by simp only[LU];exact .inl O)).sl (bX _) (by simp[h.st.gl]) λb O=>a b (by simp only[LU];exact .inl O)
 .exact(h.st.t.ai λb O=>i b (by simp only[LU];exact .inr (.inl O))).sl (dH _) (by simp[h.st.tl]) λb O=>a b (by simp only[LU];exact .inr (.inl O))
 ·
  have wq:Own X 46 1 q.HA q.hn q.hc (xs.set k (.slice I (fs.length+2) aE)) [O]:=by
   have ac:Own aT 46 1 q.HA q.hn q.hc xs [O]:=h.st.h.ai λb a1=>cg.block b (ay (Mi.1 a1)) (by have:=Mi.1 a1;rw[this];exact nf O (by simp));obtain⟨bj,he,bJ,_,_,_,L⟩:=ac.block ad;have:bj=O:=by rw[lH] at he;injection he with he;injection he with he _;exact he.symm
   subst this;rw[<-hX];exact L k _ ad
  have m:D.aM X (λb=>B<=b/\b<X.heap.size/\b≠N) ((s.threads.set k (fs++[f]++[R])).map fI) (xs.set k (.slice I (fs.length+2) aE)):=by
   have e1:xs.set k (.slice I (fs.length+2) aE)=aK++([.slice I (fs.length+2) aE]++a4):=by
    rw[ck,List.set_append_right _ _ ad,b6,Nat.sub_self];rfl
   have e2:s.threads.set k (fs++[f]++[R])=s.threads.take k++((fs++[f]++[R])::s.threads.drop (k+1)):=List.set_eq_take_append_cons_drop.trans (by rw[if_pos bP]);rw[e1,e2,LR,LQ];refine D.cA ((F.ai oA.ai λb O=>i b (by simp[O])).aM oA.rep λb O=>a b (by simp[O])) ?_;simp only[D.aM];exact⟨_,_,rfl,dn.2 ⟨_,_,_,rfl,e.cap,E⟩,(cF.ai oA.ai λb O=>i b (by simp[O])).aM oA.rep λb O=>a b (by simp[O])⟩
  exact wq.sl m (by simp[h.st.hl]) λb a1=>by rw[Mi.1 a1];exact⟨(h.lo _ l).1,ad,λhe=>h.ne (he▸l)⟩
 .have:=h.o.on cg λhe=>h.ne (he▸bx);rw[<-hX];exact this.Kc (λhe=>h.ne (he▸l)) _
 .rw[<-hX];exact Fr.setCell (Fr.mono cg λb a1=>by rw[a1];exact(h.lo _ bx).1) (.inl (h.lo _ l).1) _
end
structure KV(u:aA)(s:ak)(t:Int)(f:al)(x:aC)(a b:List Int×Int):Prop where
 Jr:a.2≠0->b5 u s t f x=({s with fault:=a.2},true)
 Js:a.2=0->b.2≠0->b5 u s t f x=({s with fault:=b.2},true)
 many:a.2=0->b.2=0->x.op=3->32<=s.threads.length->b5 u s t f x=({s with fault:=4},true)
 go:a.2=0->b.2=0->x.op=3->¬32<=s.threads.length->b5 u s t f x=({bt s t (next f) with threads:=(bt s t (next f)).threads++[[di u x.target a.1 b.1]]},true)
 call:a.2=0->b.2=0->x.op=2->b5 u s t f x=(qv (bt s t (next f)) t (di u x.target a.1 b.1),true)
theorem KK{s:ak}(cw:x.op=2\/x.op=3):KV u s t f x (cR s.globals f.ints x.ints) (b1 u s f x.places):=by
 have h0:b5 u s t f x=(if cc (cR s.globals f.ints x.ints).2 (b1 u s f x.places).2 (decide (x.op=3/\32<=s.threads.length))≠0 then ({s with fault:=cc (cR s.globals f.ints x.ints).2 (b1 u s f x.places).2 (decide (x.op=3/\32<=s.threads.length))},true)
  else if x.op=3 then ({bt s t (next f) with threads:=(bt s t (next f)).threads++[[di u x.target (cR s.globals f.ints x.ints).1 (b1 u s f x.places).1]]},true)
  else (qv (bt s t (next f)) t (di u x.target (cR s.globals f.ints x.ints).1 (b1 u s f x.places).1),true)):=by
  unfold b5;rw[if_neg ad,if_pos cw]
 generalize cR s.globals f.ints x.ints=a at *;generalize b1 u s f x.places=b at *;refine⟨λh=>?_,λh ac=>?_,λh ac aV aE=>?_,λh ac aV aE=>?_,λh ac ap=>?_⟩
 .have:cc a.2 b.2 (decide (x.op=3/\32<=s.threads.length))=a.2:=by unfold cc;rw[if_pos h]
  rw[h0,this,if_pos h]
 .have:cc a.2 b.2 (decide (x.op=3/\32<=s.threads.length))=b.2:=by unfold cc;rw[if_neg ad,if_pos ac]
  rw[h0,this,if_pos ac]
 .have:cc a.2 b.2 (decide (x.op=3/\32<=s.threads.length))=4:=by unfold cc;rw[if_neg ad,if_neg ad,if_pos (by simp[aV,aE])]
  rw[h0,this,if_pos ad]
 .have:cc a.2 b.2 (decide (x.op=3/\32<=s.threads.length))=0:=by unfold cc;rw[if_neg ad,if_neg ad,if_neg (by simp;omega)]
  rw[h0,this,if_neg ad,if_pos aV]
 .have:cc a.2 b.2 (decide (x.op=3/\32<=s.threads.length))=0:=by unfold cc;rw[if_neg ad,if_neg ad,if_neg (by simp;omega)]
  rw[h0,this,if_neg ad,if_neg ad]
namespace CF
theorem dC(h:p:=by
 generalize cy:World.setCell _ _ _=dF;obtain⟨cx,bY,b9⟩:=cr.o _ _ _ _ _ _ _ bC.2.2.1 bC.2.2.2 I.1 I.2.1 I.2.2 cy;have z:=az cx bY ((ah.2.2.2.2.1.aj bC.2.1).on b9 ad);have bO:=ae (show Ext w dF from Fr.low (M:=λb=>aS.heap.size<=b) (Fr.trans (Fr.mono (ah.1.trans bC.2.1) λ_ h=>h.elim) b9) λb O=>ad);clear cy cx bY b9 bu bp dA dZ;have br:=z.2.2;obtain⟨bl,aD,aP⟩:=br.two;obtain⟨e0,be,a6⟩:=z.2.1.two;clear br;go_wp2_with(fail);generalize hX:World.setCell _ _ _=Z;obtain⟨bs,a9,bf⟩:=bA (w:=w) [.slice bg bW aY,.slice a1 tn L,.slice (some ⟨O,0,none⟩) hn S,.int .i64 s.fault] (by rfl) z.2.2 bO.o ad hX;have bk:=ag a9 bf;clear hX a9 bf bl aD aP e0 be a6;obtain⟨bl,aD,aP⟩:=bs.two;refine Mn (v:=.tuple #[.agg #[.slice bg bW aY,.slice a1 tn L,.slice (some ⟨O,0,none⟩) hn S,.int .i64 s.fault],true]) (by simp[results,Tryz.results51,go_sem,bl]) rfl ?_;rw[b3.o];show cX mP w _ true _ _
 rw[uD bN.2.2.1];have cU:=bk.2.size;exact⟨⟨bg,bW,aY,a1,tn,L,some ⟨O,0,none⟩,hn,S⟩,rfl,((z.1.ai (ab:=Z) λb O=>bk.2.block b O.2.1 (ay O.1)).mono λb O=>.inr ⟨by have:=O.1;omega,by have:=O.2.1;show b<Z.heap.size;omega⟩),bk.1⟩
 ):p:=h
theorem Ax(h:p:=by
 obtain⟨bs,a9,bf⟩:=bA (w:=w) [.slice bg bJ aY,.slice a1 m L,.slice a4 cu S,aW] (by rfl) a3.1 a3.2 ad hX;have bk:=ag a9 bf;clear hX a9 bf bl aD aP;obtain⟨bl,aD,aP⟩:=bs.two;refine Mn (v:=.tuple #[.agg #[.slice bg bJ aY,.slice a1 m L,.slice a4 cu S,aW],true]) (by simp[results,Tryz.results51,go_sem,bl]) rfl ?_;rw[b3.o];show cX mP w {s with fault:=aW} true _ _
 exact eH (Q:={s with fault:=aW}) (q:=⟨bg,bJ,aY,a1,m,L,a4,cu,S⟩) da.o bk.2 (λb O=>ad) ad bk.1
 ):p:=h
theorem AX(h:p:=by
 refine(wG u s t f cn x N W ⟨GA,gn,gc,MA,mn,mc,PA,pn,pc⟩ ⟨bV,bW,bD,TA,tn,tc,HA,hn,hc⟩ ⟨eo,en,es,EA,em,ec,QA,qm,qc,dn,j,dj,KA,cO,kc⟩ aN.o cw ah.2.2.2.2.2.1 ah.2.2.2.2.2.2.1 ah.2.2.2.2.2.2.2).mono ?_;intro e aS aj;have aT:=ag (λh ap=>aj.2.2 h ap) aR.o;have dJ:=(qa aN.hS aN.hF aN.hp x.ints (aN.args cw).1).2.1;have cC:=(nC (s:=s) (nk:=cn.an) aN.hU.ok aN.hF (by rw[aN.hF.s6 aN.hp];exact Int.le_refl _) x.places (aN.args cw).2.1).2.1;generalize cR s.globals f.ints x.ints=aa at *;generalize b1 u s f x.places=bb at *;obtain⟨dR,aW⟩:=aa;obtain⟨bi,bz⟩:=bb;have b6:=ag dJ cC;clear dJ cC aT a0 ai af bq am aG d0 aK aM;have cN:=ah.1.size;have dx:=ah.2.2.2.2.1.lt;by_cases aL:aW=0
 case neg=>
  obtain⟨rfl,aO⟩:=aj.1 aL;have b3:=ae (aR.Jr aL);have q1:(aW == 0)=false:=by simpa using aL
  have cJ:(aW != 0)=true:=by simpa using aL
  clear aj aL aR b6;have cG:=ah.2.2.2.2.2.2.1.on aO;obtain⟨ch,bB⟩:=aJ cG aO;obtain⟨bq,am,aG⟩:=(ah.2.2.1.aj aO).two;obtain⟨d0,aK,aM⟩:=(ah.2.2.2.1.aj aO).two;have cq:=aO.size;clear cG aO;go_wp2_with(fail);refine(ll s ⟨bV,bW,bD,TA,tn,tc,HA,hn,hc⟩ aW aS ch.o aN.sm).mono ?_;exact Aw
 by_cases ac:bz=0
 case neg=>
  obtain⟨rfl,aO⟩:=aj.2.1 aL ac;have b3:=ae (aR.Js aL ac);have q1:(bz == 0)=false:=by simpa using ac
  have cJ:(bz != 0)=true:=by simpa using ac
  clear aj aL ac aR b6;have cG:=ah.2.2.2.2.2.2.1.on aO;obtain⟨ch,bB⟩:=aJ cG aO;obtain⟨bq,am,aG⟩:=(ah.2.2.1.aj aO).two;obtain⟨d0,aK,aM⟩:=(ah.2.2.2.1.aj aO).two;have cq:=aO.size;clear cG aO;go_wp2_with(fail);refine(ll s ⟨bV,bW,bD,TA,tn,tc,HA,hn,hc⟩ bz aS ch.o aN.sm).mono ?_;rintro e b7 ⟨⟨bg,bJ,aY,a1,m,L,a4,cu,S⟩,rfl,ca,a7⟩;have da:=ae ca;have cE:=(ah.2.2.2.2.1.aj bB.o).aj a7;have a3:=ag cE ((ah.1.trans bB.o).trans a7);clear ca a7 bq am aG d0 aK aM;obtain⟨bl,aD,aP⟩:=cE.two;clear cE;go_wp2_with(fail);generalize hX:World.setCell _ _ _=Z;obtain⟨bs,a9,bf⟩:=bA (w:=w) [.slice bg bJ aY,.slice a1 m L,.slice a4 cu S,bz] (by rfl) a3.1 a3.2 ad hX;have bk:=ag a9 bf;clear hX a9 bf bl aD aP;obtain⟨bl,aD,aP⟩:=bs.two;refine Mn (v:=.tuple #[.agg #[.slice bg bJ aY,.slice a1 m L,.slice a4 cu S,bz],true]) (by simp[results,Tryz.results51,go_sem,bl]) rfl ?_;rw[b3.o];show cX mP w {s with fault:=bz} true _ _
  exact eH (Q:={s with fault:=bz}) (q:=⟨bg,bJ,aY,a1,m,L,a4,cu,S⟩) da.o bk.2 (λb O=>ad) ad bk.1
 obtain⟨IA,dK,ci,bw,nl,cl,rfl,dS,bh,dy,cf,aO⟩:=aj.2.2 aL ac;have bt:=az dy cf aO;have dV:dR.length=dK:=by have:=dy.1;simpa using this
 have cg:bi.length=nl:=by have:=cf.1;simpa using this
 have bX:=bF dV cg (b6.1 aL) (b6.2 ac);clear aj dy cf dS bh dV cg b6;have bj:=az (aR.many aL ac) (aR.go aL ac) (aR.call aL ac);clear aR aL ac;by_cases aV:x.op=3
 .have c9:(x.op == 3)=true:=by simpa using aV
  by_cases aE:32<=hn
  .have dk:decide ((hn:Int)>=32)=true:=by simpa using (by omega:(32:Int)<=(hn:Int))
   have b3:=ae (bj.1 aV (by rw[<-bN.2.2.2.2];exact aE));clear aV aE bj;have cG:=ah.2.2.2.2.2.2.1.on aO;obtain⟨ch,bB⟩:=aJ cG aO;obtain⟨bq,am,aG⟩:=(ah.2.2.1.aj aO).two;obtain⟨d0,aK,aM⟩:=(ah.2.2.2.1.aj aO).two;have cq:=aO.size;clear cG aO;go_wp2_with(fail);refine(ll s ⟨bV,bW,bD,TA,tn,tc,HA,hn,hc⟩ 4 aS ch.o aN.sm).mono ?_;rintro e b7 ⟨⟨bg,bJ,aY,a1,m,L,a4,cu,S⟩,rfl,ca,a7⟩;have da:=ae ca;have cE:=(ah.2.2.2.2.1.aj bB.o).aj a7;have a3:=ag cE ((ah.1.trans bB.o).trans a7);clear ca a7 bq am aG d0 aK aM;obtain⟨bl,aD,aP⟩:=cE.two;clear cE;go_wp2_with(fail);generalize hX:World.setCell _ _ _=Z;obtain⟨bs,a9,bf⟩:=bA (w:=w) [.slice bg bJ aY,.slice a1 m L,.slice a4 cu S,(4:Int)] (by rfl) a3.1 a3.2 ad hX;have bk:=ag a9 bf;clear hX a9 bf bl aD aP;obtain⟨bl,aD,aP⟩:=bs.two;refine Mn (v:=.tuple #[.agg #[.slice bg bJ aY,.slice a1 m L,.slice a4 cu S,(4:Int)],true]) (by simp[results,Tryz.results51,go_sem,bl]) rfl ?_;rw[b3.o];show cX mP w {s with fault:=4} true _ _
   exact eH (Q:={s with fault:=4}) (q:=⟨bg,bJ,aY,a1,m,L,a4,cu,S⟩) da.o bk.2 (λb O=>ad) ad bk.1
  .have dk:decide ((hn:Int)>=32)=false:=by simp;omega
   have b3:=ae (bj.2.1 aV (by rw[<-bN.2.2.2.2];exact aE));clear aV aE bj;have cG:=ah.2.2.2.2.2.2.1.on aO;obtain⟨ch,bB⟩:=aJ cG aO;have dl:=bN.2.1;have dD:t<(hn:Int):=by have:=bN.2.2.2.2;have:=(List.getElem?_eq_some_iff.1 bN.2.2.1).1;omega
   obtain⟨bq,am,aG⟩:=(ah.2.2.1.aj aO).two;obtain⟨d0,aK,aM⟩:=(ah.2.2.2.1.aj aO).two;have cq:=aO.size;clear cG aO;go_wp2_with(fail);refine(fV s bV TA HA bW bD tn tc hn hc aS ch.at_ aN.sm).mono ?_;rintro e b7 ⟨bg,aY,a1,L,a4,S,xs,F1,F2,bL,cd,rfl,cz,bv,a7⟩;have bQ:=az cz bv a7;have cQ:=a7.size;clear cz bv a7 bq am aG d0 aK aM;go_upto_region 7 with(fail);generalize hV:World.alloc _ _=V;have bo:=aU hV;have b8:=aI hV;have hOut:dI aS V s b7 ⟨bg,bW,aY,a1,tn,L,a4,hn,S⟩ xs F1 F2 bL cd:=
    ⟨bQ.1.ai λb O=>bo.block b (bQ.2.1 b O).2 λh=>h,b8,λO=>by have:=(bQ.2.1 _ O).2;omega,λb O=>⟨(bQ.2.1 b O).1,by have:=(bQ.2.1 b O).2;have:=bo.size;omega⟩,cQ⟩
   have bS:Ext aS V:=bQ.2.2.trans bo;obtain⟨bU,c1,i2,cT,df,c7,dg,c0,bc,aH,J⟩:=hOut.top bN.2.2.1 bN.2.1 bN.1 bN.2.2.2.1;have cc:=az aH J bS;obtain⟨e0,be,a6⟩:=hOut.o.two;clear hV bo b8 hOut bS aH J c0 bc;go_wp2_with(fail);refine(cc.1 V Mo).mono ?_;rintro e cS ⟨rfl,bd⟩;have P:=ae (cc.2.1 cS bd);have cj:=ae (cc.2.2.trans bd);clear e0 be a6 bd;have bT:=P.c1;have g2:=P.fz;have cP:=P.lt;have db:=ct.2.2.2.2.2;go_upto_region 8 with(fail);generalize hX:World.setCell _ _ _=X;have bR:sj aS X {s with threads:=s.threads.set t.toNat (fs++[next f])} b7.heap.size ⟨bg,bW,aY,a1,tn,L,a4,hn,S⟩ xs F1 F2 bL cd t fs (next f) bU c1 i2 cT df c7 dg:=hX▸P.JY bN.2.2.1 (f.pc+1);have b4:=cp hX;have dH:=P.ge;have i:Ext aS X:=Fr.low (M:=λb=>b=bU) (Fr.trans (Fr.mono cj.o λ_ h=>h.elim) b4) λb O=>ad;have a2:=bB.trans i;have aQ:=az bR.oz i a2;obtain⟨a0,ai,af⟩:=(ah.2.1.aj a2).two;obtain⟨d0,aK,aM⟩:=(ah.2.2.2.1.aj a2).two;clear hX bR b4 i a2 bT g2 cP P;go_wp2_with(fail);have dG:=(bt.1.ai (ab:=X) λb O=>aQ.2.1.block b O.2 λh=>h).mono (de:=aq X) λb O=>LL O.2 aQ.2.1.size;have c8:=(bt.2.1.ai (ab:=X) λb O=>aQ.2.1.block b O.2 λh=>h).mono (de:=aq X) λb O=>LL O.2 aQ.2.1.size;have bI:=bX.2.2.1;have cb:=bX.2.2.2;refine(mframe u x.target dP dR bi IA bw dK ci nl cl X ⟨GA,gn,gc,MA,mn,mc,PA,pn,pc⟩ (ah.2.2.2.2.2.1.on aQ.2.2) ct.1 ct.2.1 (lV ct.2.2.1 ct.2.2.2.2.1.ints) ct.2.2.2.2.1.ints.2.2 (ay aN.kl) dG c8).mono ?_;rintro e c6 ⟨FA,c4,bx,dE,fl,b2,rfl,aX,bP⟩
   generalize cY:di u x.target dR bi=R at *;have dp:=ae cY;have dB:=ag aX bP;clear cY dG c8 bI cb aX bP a0 ai af d0 aK aM;go_upto_region 9 with(fail);generalize co:World.alloc _ _=Y;have bG:=aU co;have bH:=aI co;have cZ:Ext X Y:=dB.2.trans bG;have cD:=aQ.2.2.trans cZ;have n:=aQ.1.aj cZ;have ar:(dh R).rep Y (fresh X c6) [.int .i64 R.proc,.int .i64 R.pc,.slice FA c4 bx,.slice dE fl b2]:=D.aS (λb O=>bG.block b O.2 λh=>h) _ _ dB.1;have fg:=dB.2.size;have fb:=bG.size;have d1:=aQ.1.o.lt;have dr:=aQ.2.1.size;have cI:∀b,fresh X c6 b->aS.heap.size<=b/\b<Y.heap.size/\b≠b7.heap.size/\b∉F1++(F2++(bL++cd)):=λb O=>⟨by have:=O.1;omega,by have:=O.2;omega,by have:=O.1;omega,λhm=>by have:=(aQ.1.lo b hm).2;have:=O.1;omega⟩
   have bC:=bF n cD ar cI;obtain⟨d0,aK,aM⟩:=(ah.2.2.2.1.aj cD).two;obtain⟨e0,be,a6⟩:=n.o.two;obtain⟨f0,dN,dQ⟩:=bH.two;clear co bG bH cZ cD n ar cI cc cj bQ;have cF:=bC.1.st.h.aj ((Fr.refl _ Y).alloc (.cells #[.int .i64 R.proc,.int .i64 R.pc,.slice FA c4 bx,.slice dE fl b2] 50));have dW:b7.heap.size∉bL:=λh=>bC.1.ne (by simp[h]);have c5:=bC.1.o.aj ((Fr.refl _ Y).alloc (.cells #[.int .i64 R.proc,.int .i64 R.pc,.slice FA c4 bx,.slice dE fl b2] 50));have dd:=ag cF c5;clear cF c5;go_upto_region 12 with(at_builtin;refine m9 pE rfl (.tmp 65) (.tmp 69) rfl dd.1 (cs:=#[.slice (some ⟨Y.heap.size,0,none⟩) 1 1]) rfl rfl (by simp) rfl (by simp[Value.oneCell']) (by simp only;omega) (by simp only;omega) ?_;intro A2 c2 cV bT g2 cP;have cH:=dd.2.on g2 dW;have I:=az bT g2 cP;clear bT g2 cP e0 be a6 f0 dN dQ d0 aK aM;obtain⟨e0,be,a6⟩:=cH.two;clear cH);generalize cy:World.setCell _ _ _=dF;obtain⟨cx,bY,b9⟩:=bC.1.start bC.2.2.1 bC.2.2.2 rfl I.1 I.2.1 I.2.2 cy;have z:=az cx bY ((ah.2.2.2.2.1.aj bC.2.1).on b9 ad);have bO:=ae (show Ext w dF from Fr.low (M:=λb=>aS.heap.size<=b) (Fr.trans (Fr.mono (ah.1.trans bC.2.1) λ_ h=>h.elim) b9) λb O=>ad);clear cy cx bY b9 e0 be a6;have br:=z.2.2;obtain⟨bl,aD,aP⟩:=br.two;obtain⟨e0,be,a6⟩:=z.2.1.two;clear br;go_wp2_with(fail);generalize hX:World.setCell _ _ _=Z;obtain⟨bs,a9,bf⟩:=bA (w:=w) [.slice bg bW aY,.slice a1 tn L,.slice A2 (hn+1) c2,.int .i64 s.fault] (by rfl) z.2.2 bO.o ad hX;have bk:=ag a9 bf;clear hX a9 bf bl aD aP e0 be a6
   obtain⟨bl,aD,aP⟩:=bs.two;refine Mn (v:=.tuple #[.agg #[.slice bg bW aY,.slice a1 tn L,.slice A2 (hn+1) c2,.int .i64 s.fault],true]) (by simp[results,Tryz.results51,go_sem,bl]) rfl ?_;rw[b3.o];show cX mP w _ true _ _
   rw[et bN.2.2.1];have cU:=bk.2.size;exact⟨⟨bg,bW,aY,a1,tn,L,A2,hn+1,c2⟩,rfl,((z.1.ai (ab:=Z) λb O=>bk.2.block b O.2.1 (ay O.1)).mono λb O=>.inr ⟨by have:=O.1;omega,by have:=O.2.1;show b<Z.heap.size;omega⟩),bk.1⟩
 .have ap:x.op=2:=ad;have c9:(x.op == 3)=false:=by simpa using aV
  have b3:=ae (bj.2.2 ap);clear aV ap bj;have cG:=ah.2.2.2.2.2.2.1.on aO;obtain⟨ch,bB⟩:=aJ cG aO;have dl:=bN.2.1;have dD:t<(hn:Int):=by have:=bN.2.2.2.2;have:=(List.getElem?_eq_some_iff.1 bN.2.2.1).1;omega
  obtain⟨bq,am,aG⟩:=(ah.2.2.1.aj aO).two;obtain⟨d0,aK,aM⟩:=(ah.2.2.2.1.aj aO).two;have cq:=aO.size;clear cG aO;go_wp2_with(fail);refine(fV s bV TA HA bW bD tn tc hn hc aS ch.at_ aN.sm).mono ?_;rintro e b7 ⟨bg,aY,a1,L,a4,S,xs,F1,F2,bL,cd,rfl,cz,bv,a7⟩;have bQ:=az cz bv a7;have cQ:=a7.size;clear cz bv a7 bq am aG d0 aK aM;go_upto_region 7 with(fail);generalize hV:World.alloc _ _=V;have bo:=aU hV;have b8:=aI hV;have hOut:dI aS V s b7 ⟨bg,bW,aY,a1,tn,L,a4,hn,S⟩ xs F1 F2 bL cd:=
   ⟨bQ.1.ai λb O=>bo.block b (bQ.2.1 b O).2 λh=>h,b8,λO=>by have:=(bQ.2.1 _ O).2;omega,λb O=>⟨(bQ.2.1 b O).1,by have:=(bQ.2.1 b O).2;have:=bo.size;omega⟩,cQ⟩
  have bS:Ext aS V:=bQ.2.2.trans bo;obtain⟨bU,c1,i2,cT,df,c7,dg,c0,bc,aH,J⟩:=hOut.top bN.2.2.1 bN.2.1 bN.1 bN.2.2.2.1;have cc:=az aH J bS;obtain⟨e0,be,a6⟩:=hOut.o.two;clear hV bo b8 hOut bS aH J c0 bc;go_wp2_with(fail);refine(cc.1 V Mo).mono ?_;rintro e cS ⟨rfl,bd⟩;have P:=ae (cc.2.1 cS bd);have cj:=ae (cc.2.2.trans bd);clear e0 be a6 bd;have bT:=P.c1;have g2:=P.fz;have cP:=P.lt;have db:=ct.2.2.2.2.2;go_upto_region 8 with(fail);generalize hX:World.setCell _ _ _=X;have bR:sj aS X {s with threads:=s.threads.set t.toNat (fs++[next f])} b7.heap.size ⟨bg,bW,aY,a1,tn,L,a4,hn,S⟩ xs F1 F2 bL cd t fs (next f) bU c1 i2 cT df c7 dg:=hX▸P.JY bN.2.2.1 (f.pc+1);have b4:=cp hX;have dH:=P.ge;have i:Ext aS X:=Fr.low (M:=λb=>b=bU) (Fr.trans (Fr.mono cj.o λ_ h=>h.elim) b4) λb O=>ad;have a2:=bB.trans i;have aQ:=az bR.oz i a2;obtain⟨a0,ai,af⟩:=(ah.2.1.aj a2).two;obtain⟨d0,aK,aM⟩:=(ah.2.2.2.1.aj a2).two;clear hX bR b4 i a2 bT g2 cP P;go_wp2_with(fail);have dG:=(bt.1.ai (ab:=X) λb O=>aQ.2.1.block b O.2 λh=>h).mono (de:=aq X) λb O=>LL O.2 aQ.2.1.size;have c8:=(bt.2.1.ai (ab:=X) λb O=>aQ.2.1.block b O.2 λh=>h).mono (de:=aq X) λb O=>LL O.2 aQ.2.1.size;have bI:=bX.2.2.1;have cb:=bX.2.2.2;refine(mframe u x.target dP dR bi IA bw dK ci nl cl X ⟨GA,gn,gc,MA,mn,mc,PA,pn,pc⟩ (ah.2.2.2.2.2.1.on aQ.2.2) ct.1 ct.2.1 (lV ct.2.2.1 ct.2.2.2.2.1.ints) ct.2.2.2.2.1.ints.2.2 (ay aN.kl) dG c8).mono ?_;rintro e c6 ⟨FA,c4,bx,dE,fl,b2,rfl,aX,bP⟩
  generalize cY:di u x.target dR bi=R at *;have dp:=ae cY;have dB:=ag aX bP;clear cY dG c8 bI cb aX bP a0 ai af d0 aK aM;go_upto_region 9 with(fail);generalize co:World.alloc _ _=Y;have bG:=aU co;have bH:=aI co;have cZ:Ext X Y:=dB.2.trans bG;have cD:=aQ.2.2.trans cZ;have n:=aQ.1.aj cZ;have ar:(dh R).rep Y (fresh X c6) [.int .i64 R.proc,.int .i64 R.pc,.slice FA c4 bx,.slice dE fl b2]:=D.aS (λb O=>bG.block b O.2 λh=>h) _ _ dB.1;have fg:=dB.2.size;have fb:=bG.size;have d1:=aQ.1.o.lt;have dr:=aQ.2.1.size;have cI:∀b,fresh X c6 b->aS.heap.size<=b/\b<Y.heap.size/\b≠b7.heap.size/\b∉F1++(F2++(bL++cd)):=λb O=>⟨by have:=O.1;omega,by have:=O.2;omega,by have:=O.1;omega,λhm=>by have:=(aQ.1.lo b hm).2;have:=O.1;omega⟩
  have bC:=bF n cD ar cI;obtain⟨d0,aK,aM⟩:=(ah.2.2.2.1.aj cD).two;obtain⟨e0,be,a6⟩:=n.o.two;obtain⟨f0,dN,dQ⟩:=bH.two;clear co bG bH cZ cD n ar cI cc cj bQ;obtain⟨O,cm,fc,b0,lH,a8,dU,l,T,dT,cK,bM,dO,bm,hh,du,aZ,ao,ds⟩:=bC.1.push (k:=t.toNat) (fs:=fs) (f:=next f) (by have an:=(List.getElem?_eq_some_iff.1 bN.2.2.1).1;simp[an]);simp only at lH;subst lH;obtain⟨cr,dd⟩:=aJ ds ao;have dt:=bN.2.2.2.1;have d3:=(aQ.1.lo cm l).2;have d4:=(aQ.1.lo O dU).2;have d2:c6≠cm:=ad;have dL:b7≠cm:=Ne.symm hh;clear ds ao dU l;go_upto_region 11 with(fail);refine eJ (λb=>b=cm) [(0,3),(1,0),(2,3),(3,3),(4,0),(5,3),(6,3),(7,3),(8,0),(9,0),(10,1),(11,1),(12,3),(13,3),(14,2)] ?_;refine pf ?_;refine oH ?_
  iterate 2 refine pf ?_
  refine oH ?_
  iterate 3 refine pf ?_
  iterate 2 refine oH ?_
  refine rb ?_;refine mf (λV=>Ext Y V/\au V Y 50 #[.int .i64 R.proc,.int .i64 R.pc,.slice FA c4 bx,.slice dE fl b2]/\V.heap.size=Y.heap.size+1) ⟨by first|exact((Fr.refl _ Y).drew).alloc _|exact((Fr.refl _ Y).alloc _).drew,by first|exact Mp|exact au.new Y.drew _ _,by simp⟩ (λU hU=>?_);have cB:=ae hU;clear hU;refine aB rfl (λK hK=>?_);rw[if_pos (by rfl)];refine yv tN (.tmp 80) (.tmp 82) rfl (dd.aj cB.1) cB.2.1 rfl rfl rfl (by simp[Value.oneCell']) ad ad ?_;intro A2 c2 cV bT g2 cP;have cW:Fr (λb=>b=cm) U cV:=g2.mono λb O=>Mi.1 O;refine dq hK (cW) ?_;clear hK K;have bn:Fr (λb=>b=cm) Y cV:=Fr.trans (cB.1.mono λ_ h=>h.elim) cW;have I:=az bT bn (λb O=>(cP b O).imp (λh=>Mi.1 h) (λh=>(⟨by have:=cB.2.2;omega,h.2⟩:Y.heap.size<=b/\b<cV.heap.size)));have bu:=(bn.cell (j:=t.toNat) T dO).trans aZ;have bp:∀j,cV.frozen? ⟨O,j,none⟩=false:=λj=>(bn.frozen T dO).trans (du j);have dA:=bn.size;clear bT g2 cP cW bn aZ du e0 be a6 f0 dN dQ d0 aK aM;exact B3
 ):p:=h
theorem gS(h:p:=by
 obtain⟨eo,en,es,EA,em,ec,QA,qm,qc,dn,j,dj,KA,cO,kc⟩:=v;obtain⟨_,_,dz,dP,dM,dY,dv,c3⟩:=h.args cw;have nv:hn=s.threads.length:=by have:=hs.at_.h.1;simpa using this.symm
 have dw:hn<=1000:=by have:=h.sm.h;omega
 have dc:=h.pc;have aR:=ae (KK (u:=u) (s:=s) (t:=t) (f:=f) (x:=x) cw);have aN:=ae h;have bN:=cL av dl bK ce nv;have ct:=dm dz dM dY dv c3 dc;have cc:=az hu hs bE;clear h av dl cA bK ce nv dz dM dY dv c3 dc hu hs bE;dsimp only[UV.val,SV.val,IV.val];go_enter func51,ntmps51;exact AW
 ):p:=h
end CF
open CF in
theorem JC(u:aA)(s:ak)(t:Int)(f:al)(cn:cM)(x:aC)(N:Nat)(w:World)(p:UV)(q:SV)(v:IV)(h:jX u s t f cn x N)(cw:x.op=2\/x.op=3)(hu:p.Ok w u)(hs:q.Ok w s)(bE:v.Ok w x) :
  Calls prog 51 #[.agg (p.val u),.agg (q.val s),t,.agg (v.val x)] w (cX mP w (b5 u s t f x).1 (b5 u s t f x).2):=by
 obtain⟨av,dl,cA,fs,bK,ce⟩:=h.th;exact gR
end Go.Proofs.YtpkfopfkdgkfkaaGreat
