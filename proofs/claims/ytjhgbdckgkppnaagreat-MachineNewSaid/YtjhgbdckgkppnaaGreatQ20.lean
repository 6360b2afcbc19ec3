/- Part 20 of the proof (McO McP), without conditions of its own. -/
import Derived.Test.YtjhgbdckgkppnaaGreatQ19
namespace Go.Proofs.YtjhgbdckgkppnaaGreat
open Go.RowKit Go.Proofs.Tryz
set_option maxRecDepth 1000000
set_option maxHeartbeats 25600000
set_option linter.unusedVariables false
variable{a:Act}{ops:Array Oper}{Q:Exit→Act→World→Prop}{t:Int}{fs:List aq}{bytes size:Nat}{o:Oper}{P:Program}{p:Prop}{e:TypeId}{z:Value}{S:World}{f i:aq}
def DJ(w:World)(a b:List Int×Int)(e:Ending)(ab:World):Prop:=
 (a.2≠0→e=.returned (.tuple #[.slice none 0 0,.slice none 0 0,.int .i64 a.2])∧Ext w ab)∧
 (a.2=0→b.2≠0→e=.returned (.tuple #[.slice none 0 0,.slice none 0 0,.int .i64 b.2])∧Ext w ab)∧
 (a.2=0→b.2=0→∃A n c az L aG,e=.returned (.tuple #[.slice A n c,.slice az L aG,.int .i64 0])∧n≤c∧L≤aG∧Sl ab (fresh w ab) A n (a.1.map D.i)∧Sl ab (fresh w ab) az L (b.1.map D.i)∧Ext w ab)
def AG(g l:List Int)(es:List VE)(k:Nat):Prop:=∀e∈es.take k,(ev g l e).2=0
theorem px{g l:List Int}:∀{es:List VE},(∀e∈es,(ev g l e).2=0)→dt g l es=(es.map fun e=>(ev g l e).1,0)
 | [],_=>rfl
 | e::es,h=>by
  have ac:=h e (by simp);have J:=px (es:=es) fun x hx=>h x (by simp[hx]);unfold dt;rw[if_neg ad,J,if_neg (by simp)];rfl
theorem pw{g l:List Int}:∀{es:List VE} {k:Nat} {e:VE},AG g l es k→es[k]?=some e→(ev g l e).2≠0→dt g l es=([],(ev g l e).2)
 | [],k,e,_,h,_=>by simp at h
 | x::es,0,e,_,h,O=>by
  simp at h;subst h;unfold dt
  rw[if_pos O]
 | x::es,k+1,e,hu,h,O=>by
  have ac:(ev g l x).2=0:=hu x (by simp);have J:=pw (es:=es) (k:=k) (e:=e) (fun y a3=>hu y (by simp[a3])) (by simpa using h) O;unfold dt;rw[if_neg ad,J,if_pos O]
theorem oa{u:aF}{s:an}{f:aq}:∀{ps:List bK},(∀p∈ps,(bD u s f p).2=0)→cf u s f ps=(ps.map fun p=>(bD u s f p).1,0)
 | [],_=>rfl
 | p::ps,h=>by
  have ac:=h p (by simp);have J:=oa (ps:=ps) fun x hx=>h x (by simp[hx]);unfold cf;rw[if_neg ad,J,if_neg (by simp)];rfl
theorem n9{u:aF}{s:an}{f:aq}:∀{ps:List bK} {k:Nat} {p:bK},(∀x∈ps.take k,(bD u s f x).2=0)→ps[k]?=some p→(bD u s f p).2≠0→cf u s f ps=([],(bD u s f p).2)
 | [],k,p,_,h,_=>by simp at h
 | x::ps,0,p,_,h,O=>by
  simp at h;subst h;unfold cf
  rw[if_pos O]
 | x::ps,k+1,p,hu,h,O=>by
  have ac:(bD u s f x).2=0:=hu x (by simp);have J:=n9 (ps:=ps) (k:=k) (p:=p) (fun y a3=>hu y (by simp[a3])) (by simpa using h) O;unfold cf;rw[if_neg ad,J,if_pos O]
theorem lN.args{u:aF}{s:an}{bh:c5}{x:aC}{N:Nat}(h:lN u s t f bh x N)(ct:x.op=2∨x.op=3):(∀e∈x.ints,fo (bs u) bh.locals e)∧(∀p∈x.places,cT (bs u) bh.locals bh.av p)∧
  0≤x.target∧∃pc,u.procs[x.target.toNat]?=some pc∧(x.ints.length:Int)=pc.ints∧(x.places.length:Int)=pc.av∧oy (bs u) pc:=by
 obtain⟨len,_,aJ⟩:=h.ok;rcases aJ with⟨ac,_⟩|⟨_,_,sg,J,aS,bo,cr,aY,j⟩|⟨ac,_⟩|⟨ac,_⟩|⟨ac,_⟩|⟨ac,_⟩
 ·omega
 ·refine⟨aY,j,J,?_⟩;simp only[bs,List.getElem?_map] at aS
  cases bu:u.procs[x.target.toNat]? with
  | none=>rw[bu] at aS;cases aS
  | some r=>
   rw[bu] at aS;simp only[Option.map_some,GI] at aS;subst aS;exact⟨r,rfl,bo,cr,h.hU.ok.procs r (Ge bu)⟩
 ·omega
 ·omega
 ·omega
 ·omega
namespace zn
theorem ss(h:p:=by
 have bM:=ai a3 Q;clear a3 Q cF Z a1 O av bR L S;go_upto_region 6 with(fail);generalize hU:World.alloc _ _=U;have ab:Ext wr U:=hU▸GN.alloc _;have a8:ag U wr.heap.size 55 #[.int .i64 ex.aU,.int .i64 ex.numOf,.string ex.aZ,.slice aS dl cE]:=hU▸GO;have I:=aZ.2.2.2.trans ab;have cn:=aK ab I (D.on bM.2 (Fr.ext ab));have ah:=(aj.2.2.2.2.2.2.2.on I)
 have ci:=ah.lf;have eL:=ah.c2;obtain⟨a6,aL,aP⟩:=a8.two;obtain⟨a7,am,aE⟩:=(aj.2.2.1.al I).two;have ar:=ae ah;clear hU ab a8 I ah c0 c1 c2 c3 aN;refine eh (fun _=>False) [(0,0),(1,3),(2,0),(3,3),(4,3),(5,3),(6,0),(7,2),(8,3),(9,3),(10,3),(11,3),(12,3)] ?_;refine ph ?_;refine pf ?_;refine ph ?_
 iterate 3 refine pf ?_
 refine ph ?_;refine ax rfl (fun K hK=>?_);go_simp;have aa:Ext U U.drew:=(Fr.refl _ U).drew;refine(nr ex U.drew bI IA bG i bq ic s.globals f.ints _ _ _ _ (aU.1.EX (aU.2.1 ex (Ge bM.1)) ((aj.2.2.2.2.2.1.on cn.2.1).on aa).at_.g (ar.on aa).ints (D.on cn.2.2 (Fr.ext aa))).1).mono ?_;rintro e aQ ⟨rfl,bt⟩;have aW:=ae (show Ext U aQ from Fr.aE (Fr.of bt));have X:=fun bv=>pw (k:=k) aZ.2.2.1 bM.1 bv;generalize V:ev s.globals f.ints ex=R at *;obtain⟨r,z⟩:=R;have a4:=ai X V;clear X V bt aa a6 aL aP a7 am aE eL ci ar;refine hK _ _ ?_;clear hK K
 try simp only[PU]
 iterate 5 refine pf ?_
 refine aD ?_;by_cases bv:z=0
 ·have bb:(z != 0)=false:=by simpa using bv
  have eN:=(aZ.2.1.al cn.1).al aW.o;have bK:=cn.1.size;have cB:=aW.size;have P:=ae eN;have bf:=ae bv;clear bv eN;go_wp2_with (at_builtin;refine bS dj rfl (.tmp 46) (.tmp 48) rfl P.o (d:=D.i r) (cs:=#[.int .i64 r]) (by simp only[D.rep]) rfl rfl rfl ad ad ad ?_;intro cl c3 bJ b4 g2 cD cP;have bB:=ai b4 g2;clear b4 g2 cD cP);have bN:∀b,(Value.slice A k c).ownBlock=some b→aH.heap.size≤b:=fun b O=>(P.lt O).1;have ay:Ext aH bJ:=Fr.low (M:=fun b=>(Value.slice A k c).ownBlock=some b) (Fr.trans (Fr.mono ((aZ.1.trans cn.1).trans aW.o) fun _ h=>h.elim) bB.2) fun b O=>bN b O;have b6:=ae ay;clear bN ay;go_roundw
  case rel=>
   refine⟨k+1,cl,c3,rfl,by go_num,ad,b6.o,?_,fun e he=>?_⟩
   ·rw[bo bM.1,Gi,Gi];exact wE
   ·rw[bo bM.1] at he;rcases Gk.1 he with he|he
    ·exact aZ.2.2.1 e he
    ·rw[GH.1 he,a4.2];exact bf.o
  case measure=>simp[intOf];omega
 ·have bb:(z != 0)=true:=by simpa using bv
  have bW:=ae (a4.1 bv);have bf:=ae bv;clear bv;go_wp2_with (fail)
  go_ret3
  have ak:Ext w aQ:=((aj.1.trans aZ.2.2.2).trans cn.1).trans aW.o;refine⟨fun h=>⟨?_,ak⟩,fun h=>absurd h ?_,fun h=>absurd h ?_⟩
  ·rw[bW.o];rfl
  ·rw[bW.o];exact bf.o
  ·rw[bW.o];exact bf.o
 ):p:=h
theorem iT(h:p:=by
 have b1:ag W w.heap.size 30 #[.slice GA gn gc,.slice MA mn mc,.slice PA pn pc,.int .i64 u.main]:=bg▸((GO).alloc _).alloc _;have ca:ag W (w.heap.size+1) 40 #[.slice bI bG bq,.slice TA tn tc,.slice (some ⟨Y,bi,none⟩) hn hc,.int .i64 s.fault]:=bg▸(ag.bR _ _ _ (by simp)).alloc _;have aX:ag W (w.heap.size+2) 60 #[.int .i64 x.op,.int .i64 x.target,.bool x.da,.int .i64 eo,.int .i64 en,.string es,.slice EA em ec,.bool x.place.param,.int .i64 x.place.index,.slice QA qm qc,.slice cZ j cN,.slice KA db kc]:=bg▸ag.bR _ _ _ (by simp);have aj:=nw av b1 ca aX (cg.1.on av) (cg.2.1.on av) (cg.2.2.1.on av) (cg.2.2.2.on av);obtain⟨a7,am,aE⟩:=ca.two;clear bg av b1 ca aX cg;go_wp2_with (fail);refine(j7 aj.2.2.2.2.2.2.2 _ _ _).mono ?_;rintro e aH ⟨rfl,aI⟩;have bp:=ae aI;clear a7 am aE;obtain⟨a6,aL,aP⟩:=(aj.2.2.2.1.al aI).two;clear aI;have b9:=bp.size;have cH:=aj.1.size;go_wp2_with (fail);clear a6 aL aP;go_loopw [11,28] (fun sv cp wr=>∃(k:Nat) (A:GR) (c:Nat),sv=.slice A k c∧cp=.int .i64 k∧k≤j∧Ext aH wr∧Gr (fun _=>False) aH.heap.size 3 1 wr A k c (((x.ints.take k).map fun e=>(ev s.globals f.ints e).1).map D.i)∧AG s.globals f.ints x.ints k) (fun _ cp _=>j - (intOf cp).toNat)
 case atStart=>exact⟨0,none,0,rfl,rfl,ad,GN,Gr.nil _ _ _ _ _,fun e he=>by simp at he⟩
 case round=>
  obtain⟨k,A,c,rfl,rfl,ap,av,bR,L⟩:=hrel;have S:=bp.trans av;have aZ:=bO av bR L S;have dU:=av.size;by_cases ao:k<j
  ·obtain⟨b,o,ex,cs,rfl,O,a3,Q,a1,Z⟩:=(aj.2.2.2.2.2.2.1.ints.on (Fr.ext S)).fJ cS ao;exact sr
  ·obtain rfl:k=j:=ad;have y:dt s.globals f.ints x.ints=(x.ints.map fun e=>(ev s.globals f.ints e).1,0):=px fun e he=>L e (by rw[Gj (aB aU.2.2.2.1)];exact he);have ck:Sl wr (fun b=>aH.heap.size≤b∧b<wr.heap.size) A k ((dt s.globals f.ints x.ints).1.map D.i):=by
    have aM:=bR;rw[Gj (aB aU.2.2.2.1)] at aM;rw[y];exact aM.sl (fun b _ h=>h.elim) fun b ao O=>⟨O,ao⟩
   have aA:=bR.cap.1;obtain⟨cu,rfl⟩:∃cu,cu=wr:=⟨wr,rfl⟩
   have HA:=aK ck aA y;obtain⟨a6,aL,aP⟩:=(aj.2.2.2.1.al S).two;clear av bR L S y ck aA;go_wp2_with (fail);clear a6 aL aP;go_loopw [12,54] (fun sv cp wr=>∃(m:Nat) (B:GR) (aG:Nat),sv=.slice B m aG∧cp=.int .i64 m∧m≤db∧Ext cu wr∧Gr (fun _=>False) cu.heap.size 3 1 wr B m aG (((x.places.take m).map fun p=>(bD u s f p).1).map D.i)∧∀p∈x.places.take m,(bD u s f p).2=0) (fun _ cp _=>db - (intOf cp).toNat)
   case atStart=>exact⟨0,none,0,rfl,rfl,ad,GN,Gr.nil _ _ _ _ _,fun e he=>by simp at he⟩
   case round=>
    obtain⟨m,B,aG,rfl,rfl,hm,av,bR,L⟩:=hrel;have S:=aZ.2.2.2.trans av;have bT:=bO av bR L S;have dw:=av.size;by_cases T:m<db
    ·obtain⟨b,o,pl,bQ,aJ,zc,rfl,O,a3,b8,b2,bu,bV,cG⟩:=(aj.2.2.2.2.2.2.1.places.on (Fr.ext S)).qu T;have aN:b<wr.heap.size:=O;have bM:=aK a3 bV cG;clear a3 bV cG O av bR L S;go_upto_region 14 with(fail);generalize hU:World.alloc _ _=U;have ab:Ext wr U:=hU▸GN.alloc _;have a8:ag U wr.heap.size 57 #[.bool pl.param,.int .i64 pl.index,.slice bQ aJ zc]:=hU▸GO;have I:=bT.2.2.2.trans ab;have cn:=aK ab I (dY.2 ⟨bQ,aJ,zc,rfl,bM.2.1,bM.2.2.on (Fr.ext ab)⟩:(cV pl).rep U (au U) [.bool pl.param,.int .i64 pl.index,.slice bQ aJ zc]);obtain⟨a6,aL,aP⟩:=a8.two;obtain⟨a7,am,aE⟩:=(aj.2.2.1.al I).two;obtain⟨a0,al,af⟩:=(aj.2.1.al I).two;clear hU ab a8 I b8 b2 bu aN;go_wp2_with (fail);refine(ob u s t f pl N U ⟨GA,gn,gc,MA,mn,mc,PA,pn,pc⟩ ⟨bI,bG,bq,TA,tn,tc,some ⟨Y,bi,none⟩,hn,hc⟩ bQ aJ zc ⟨aU.1.hU.ok,aU.1.hS,aU.1.sm,aU.1.ht,⟨bh,aU.1.hp,aU.2.2.1 pl (Ge bM.1)⟩,aj.2.2.2.2.1.on cn.2.1,aj.2.2.2.2.2.1.on cn.2.1,cn.2.2⟩).mono ?_;rintro e aQ ⟨rfl,bt⟩;rw[kB aU.1.ht];have aW:=ae (show Ext U aQ from Fr.of bt);have X:=fun bv=>n9 (k:=m) bT.2.2.1 bM.1 bv;generalize V:bD u s f pl=R at *;obtain⟨r,z⟩:=R;have a4:=ai X V;clear X V bt a6 aL aP a7 am aE a0 al af;by_cases bv:z=0
     ·have bb:(z != 0)=false:=by simpa using bv
      have eN:=(bT.2.1.al cn.1).al aW.o;have bK:=cn.1.size;have cB:=aW.size;have P:=ae eN;have bf:=ae bv;clear bv eN;go_wp2_with (at_builtin;refine bS dj rfl (.tmp 69) (.tmp 71) rfl P.o (d:=D.i r) (cs:=#[.int .i64 r]) (by simp only[D.rep]) rfl rfl rfl ad ad ad ?_;intro cl c3 bJ b4 g2 cD cP;have bB:=ai b4 g2;clear b4 g2 cD cP);have bN:∀b,(Value.slice B m aG).ownBlock=some b→cu.heap.size≤b:=fun b O=>(P.lt O).1;have ay:Ext cu bJ:=Fr.low (M:=fun b=>(Value.slice B m aG).ownBlock=some b) (Fr.trans (Fr.mono ((bT.1.trans cn.1).trans aW.o) fun _ h=>h.elim) bB.2) fun b O=>bN b O;have b6:=ae ay;clear bN ay;go_roundw
      case rel=>
       refine⟨m+1,cl,c3,rfl,by go_num,ad,b6.o,?_,fun e he=>?_⟩
       ·rw[bo bM.1,Gi,Gi];exact wE
       ·rw[bo bM.1] at he;rcases Gk.1 he with he|he
        ·exact bT.2.2.1 e he
        ·rw[GH.1 he,a4.2];exact bf.o
      case measure=>simp[intOf];omega
     ·have bb:(z != 0)=true:=by simpa using bv
      have bW:=ae (a4.1 bv);have bf:=ae bv;clear bv;go_wp2_with (fail)
      go_ret3
      have ak:Ext w aQ:=((aj.1.trans bT.2.2.2).trans cn.1).trans aW.o;refine⟨fun h=>absurd ?_ h,fun _ h=>⟨?_,ak⟩,fun _ h=>absurd h ?_⟩
      ·rw[HA.2.2]
      ·rw[bW.o];rfl
      ·rw[bW.o];exact bf.o
    ·obtain rfl:m=db:=ad;have y:cf u s f x.places=(x.places.map fun p=>(bD u s f p).1,0):=oa fun e he=>L e (by rw[Gj (aB aU.2.2.2.2)];exact he);have ck:Sl wr (fresh w wr) B m ((cf u s f x.places).1.map D.i):=by
      have aM:=bR;rw[Gj (aB aU.2.2.2.2)] at aM;rw[y];exact aM.sl (fun b _ h=>h.elim) fun b ao O=>⟨ad,ao⟩
     have aA:=bR.cap.1;have b0:=aK ck aA y;clear av bR L S y ck aA;go_wp2_with (fail)
     go_ret3
     refine⟨fun h=>absurd ?_ h,fun _ h=>absurd ?_ h,fun _ _=>⟨A,k,c,B,m,aG,rfl,HA.2.1,b0.2.1,(HA.1.ao fun b O=>bT.1.block b O.2 fun h=>h).mono fun b O=>⟨by have:=O.1;omega,by have:=O.2;omega⟩,b0.1,aj.1.trans bT.2.2.2⟩⟩
     ·rw[HA.2.2]
     ·rw[b0.2.2]
 ):p:=h
theorem sD(h:p:=by
 obtain⟨Y,bi,bY,cI,n,fc,IA,i,ic,bj,l,lc,e,aR⟩:=hs.at_.top h.sm h.ht;simp only at e;subst e;obtain⟨aw,az,_⟩:=h.args ct;have a5:x.ints.length=j:=by have:=bC.ints.1;simpa using this
 have bU:x.places.length=db:=by have:=bC.places.1;simpa using this
 have cJ:j≤200:=by have:=h.il;omega
 have cK:db≤200:=by have:=h.kl;omega
 have aU:=cA h aw az a5 bU;have cg:=bO hu hs bC aR;clear h aw az a5 bU hu hs bC aR;dsimp only[UV.val,SV.val,IV.val];go_enter func90,ntmps90;exact iS
 ):p:=h
end zn
open zn in
theorem ta(u:aF)(s:an)(t:Int)(f:aq)(bh:c5)(x:aC)(N:Nat)(w:World)(p:UV)(q:SV)(v:IV)(h:lN u s t f bh x N)(ct:x.op=2∨x.op=3)(hu:p.Ok w u)(hs:q.Ok w s)(bC:v.Ok w x) :
  Calls prog 90 #[.agg (p.val u),.agg (q.val s),.int .i64 t,.agg (v.val x)] w (DJ w (dt s.globals f.ints x.ints) (cf u s f x.places)):=by
 exact sC
theorem CK{t:TypeId}{K:Act→World→Prop}(bb:b0 P t e z size bytes)(s x:Operand)
  (bi:o.op=.call {callee:=.builtin .append,args:=#[s,x],argTypes:=#[t,t]})
  {A:GR} {n c g:Nat} {xs:List Value} {F:List Nat} (h0:Own S e size A n c xs F) {cs:Array Value} {i:TypeId} (aT:ag S g i cs)
  (hs:a.eval s=.slice A n c) (hx:a.eval x=.slice (some ⟨g,0,none⟩) 1 1) (T:cs.size=size) (ac:∀u∈cs.toList,u.oneCell'=true)
  (r:(n+1)*bytes≤140737488355328) (H:n+1≤140737488355328)
  (h:∀az aG ab,Own ab e size az (n+1) aG (xs++cs.toList) (bB az (n+1) aG)→Fr (fun b=>b∈F) S ab→(∀b∈bB az (n+1) aG,b∈F∨(S.heap.size≤b∧b<ab.heap.size))→K (a.put o.dst (.slice az (n+1) aG)) ab):o.wp P a S K Q:=by
 have aC:Src S size (some ⟨g,0,none⟩) 1 cs.toList:=⟨by simpa using T,ac,fun _=>⟨g,0,rfl,fun j u ba=>by
  rw[Gv,aT.cell];simpa using ba⟩⟩
 refine je _ bb s x bi 0 _ n xs hs h0.row _ 1 1 cs.toList hx aC r H (Gz _) (fun h=>nomatch h) fun M ab bZ cz cj=>?_;obtain⟨az,aG,rfl,hc,_⟩:=bT bZ;refine h az aG ab ⟨bZ,rfl⟩ (GN.grown cz fun g aM=>.inl (by rw[h0.eq];simp[aM])) fun b O=>?_;have aN:(Value.slice az (n+1) aG).ownBlock=some b:=by simpa using O
 rcases cj with cj|cj
 ·rw[cj] at aN;exact .inl (by rw[h0.eq];simp[aN])
 ·have:=(bZ.lt b aN).2;rw[cj] at aN;injection aN with aN;right;omega
theorem ox{R:World→World→Prop}{rest:List (Nat×Nat)}{W:World}(C:World→Prop)(hC:C W)(h:∀V,C V→bJ P ops Q R rest a V):bJ P ops Q R rest a W:=h W hC
theorem A8{s:an}{cz:aq}(h:s.threads[t.toNat]?=some (fs++[f])):oz (bk s t cz) t i={s with threads:=(s.threads.set t.toNat (fs++[cz])).set t.toNat (fs++[cz]++[i])}:=by
 rw[fa h];unfold oz;have ao:=(List.getElem?_eq_some_iff.1 h).1;rw[j6 (x:=fs++[cz]) (by simp[ao])]
theorem qM{t:TypeId}{rest:List Oper}(bb:b0 P t e z size bytes)(i:o.guard=none)(s x:Operand)
  (bi:o.op=.call {callee:=.builtin .append,args:=#[s,x],argTypes:=#[t,t]})
  {A:GR} {n c g:Nat} {xs:List Value} {F:List Nat} (h0:Own S e size A n c xs F) {cs:Array Value}
  (hs:a.eval s=.slice A n c) (hx:a.eval x=.slice (some ⟨g,0,none⟩) 1 1) (aM:g=S.heap.size) (T:cs.size=size) (ac:∀u∈cs.toList,u.oneCell'=true)
  (r:(n+1)*bytes≤140737488355328) (H:n+1≤140737488355328)
  (h:∀az aG ab,Own ab e size az (n+1) aG (xs++cs.toList) (bB az (n+1) aG)→Fr (fun b=>b∈F) S ab→(∀b∈bB az (n+1) aG,b∈F∨(S.heap.size≤b∧b<ab.heap.size))→wpList P ops Q rest (a.put o.dst (.slice az (n+1) aG)) ab):wpList P ops Q (o::rest) a (S.alloc (.cells cs e)):=by
 subst aM;exact mK bb i s x bi h0 hs hx T ac r H h
section
variable {B:Nat} {w ab:World} {s:an} {G:Nat} {q:SV} {xs:List Value} {ak ar bS bX:List Nat}
theorem jg.Bm{α:Type}{E:World→α→List Value→List Nat→Prop}{w:World}:∀{l:List α} {xs:List Value} {F:List Nat},jg E w l xs F→∀{k:Nat} {a:α},l[k]?=some a→
  ∃Z x ay ak f ar,xs=Z++(x++ay)∧F=ak++(f++ar)∧jg E w (l.take k) Z ak∧E w a x f∧jg E w (l.drop (k+1)) ay ar
 | [],_,_,_,k,a,ap=>by simp at ap
 | b::l,xs,F,h,0,a,ap=>by
  obtain⟨x,y,ak,ar,rfl,rfl,ac,J⟩:=h;simp only[List.getElem?_cons_zero,GI] at ap;subst ap
  exact⟨[],x,y,[],ak,ar,rfl,rfl,⟨rfl,rfl⟩,ac,J⟩
 | b::l,xs,F,h,k+1,a,ap=>by
  obtain⟨bD,y,g,U,rfl,rfl,ac,J⟩:=h;simp only[List.getElem?_cons_succ] at ap;obtain⟨Z,x,ay,ak,f,ar,rfl,rfl,aS,bo,cr⟩:=jg.Bm J ap;exact⟨bD++Z,x,ay,g++ak,f,ar,by simp,by simp,⟨bD,Z,g,ak,rfl,rfl,ac,aS⟩,bo,cr⟩
theorem dg.start(h:dg B w s G q xs ak ar bS bX){c0 c1 c2 c3:Value}{P:Nat→Prop}(cF:(fh i).rep w P [c0,c1,c2,c3])(U:∀b,P b→B≤b∧b<w.heap.size∧b≠G∧b∉ak++(ar++(bS++bX)))
  {aH aQ X:World} (cd:w.alloc (.cells #[c0,c1,c2,c3] 76)=aH) {az:GR} {aG:Nat}
  (aX:Own aQ 80 1 az (q.hn+1) aG (xs++[.slice (some ⟨w.heap.size,0,none⟩) 1 1]) (bB az (q.hn+1) aG)) (aw:Fr (fun b=>b∈bS) aH aQ) (d:∀b∈bB az (q.hn+1) aG,b∈bS∨(aH.heap.size≤b∧b<aQ.heap.size))
  (ah:aQ.setCell ⟨G,2,none⟩ (.slice az (q.hn+1) aG)=X) :
  let o:SV:=⟨q.GA,q.gn,q.gc,q.TA,q.tn,q.tc,az,q.hn+1,aG⟩
  let Q:an:={s with threads:=s.threads++[[i]]}
  o.Is X (fun b=>B≤b∧b<X.heap.size∧b≠G) Q∧ag X G 40 (o.val Q)∧Fr (fun b=>B≤b) w X:=by
 intro o Q;have a3:aH.heap.size=w.heap.size+1:=by rw[←cd];simp
 have aI:Ext w aH:=cd▸GN.alloc _;have a:ag aH w.heap.size 76 #[c0,c1,c2,c3]:=cd▸GO;have bK:=aw.size;have cR:X.heap.size=aQ.heap.size:=by rw[←ah];simp[World.setCell]
 have nd:=h.st.nd;have n1:=tg.1 nd;have cx:∀b∈ak++(ar++bX),b∉bS:=fun b O aS=>(List.nodup_append.1 n1).2.2 b aS b O rfl;have a8:∀b,b∈bS→b∈ak++(ar++(bS++bX)):=fun b O=>by simp[O]
 have bG:∀b,b∈ak++(ar++bX)→b∈ak++(ar++(bS++bX)):=fun b O=>by
  exact wg
 have y:∀b,b<aH.heap.size→b≠G→b∉bS→X.heap[b]?=aH.heap[b]?:=fun b ao a2 aS=>by
  rw[←ah];exact(cX a2).trans (aw.block b ao aS)
 have v:∀b∈ak++(ar++bX),X.heap[b]?=w.heap[b]?:=fun b O=>by
  have hl:=(h.lo b (bG b O)).2;exact(y b ad (fun he=>h.ne (he▸bG b O)) (cx b O)).trans (aI.block b hl fun h=>h)
 have e:∀b,b∈ak++(ar++bX)→B≤b∧b<X.heap.size∧b≠G:=fun b O=>⟨(h.lo b (bG b O)).1,by have:=(h.lo b (bG b O)).2;omega,fun he=>h.ne (he▸bG b O)⟩
 have da:=h.o.lt;have S:∀b,P b→X.heap[b]?=w.heap[b]?:=fun b O=>by
  obtain⟨_,J,aS,bo⟩:=U b O;exact(y b ad aS (fun cr=>bo (a8 b cr))).trans (aI.block b J fun h=>h)
 have z:B≤w.heap.size:=by have:=h.go;omega
 have dm:ag X w.heap.size 76 #[c0,c1,c2,c3]:=(y _ ad ad (fun cr=>by have:=(h.lo _ (a8 _ cr)).2;omega)).trans a;have b2:(fh i).rep X (fun b=>B≤b∧b<X.heap.size∧b≠G) [c0,c1,c2,c3]:=D.aP (fun b O=>by obtain⟨ac,J,aS,_⟩:=U b O;exact⟨ac,ad,aS⟩) _ _ (D.bg S _ _ cF);have ck:Sl X (fun b=>B≤b∧b<X.heap.size∧b≠G) (some ⟨w.heap.size,0,none⟩) 1 ([i].map fh):=⟨rfl,fun _=>⟨w.heap.size,0,[c0,c1,c2,c3],rfl,⟨z,ad,ad⟩,by simp only[Gh,GC];exact D.bH.2 b2,fun j u hu=>by
  rw[Gv,dm.cell];simpa using hu⟩⟩
 have g:∀b∈bB az (q.hn+1) aG,b≠G:=fun b O=>by
  rcases d b O with ac|ac
  ·exact fun he=>h.ne (he▸a8 b ac)
  ·omega
 have m:Own X 80 1 az (q.hn+1) aG (xs++[.slice (some ⟨w.heap.size,0,none⟩) 1 1]) (bB az (q.hn+1) aG):=aX.ao fun b O=>by rw[←ah];exact cX (g b O)
 refine⟨⟨⟨?_,?_,?_⟩,h.st.g.cap,h.st.t.cap,aX.cap⟩,?_,?_⟩
 ·exact(h.st.g.ao fun b O=>v b (by simp only[Gk];exact .inl O)).sl (d0 _) (by rw[Gf];exact h.st.gl.symm) fun b O=>e b (by simp only[Gk];exact .inl O)
 ·exact(h.st.t.ao fun b O=>v b (by simp only[Gk];exact .inr (.inl O))).sl (fZ _) (by rw[Gf];exact h.st.tl.symm) fun b O=>e b (by simp only[Gk];exact .inr (.inl O))
 ·have hold:D.aL X (fun b=>B≤b∧b<X.heap.size∧b≠G) (s.threads.map kD) xs:=(h.st.hs.ao mN.ao fun b O=>v b (by simp only[Gk];exact .inr (.inr O))).aL mN.rep fun b O=>e b (by simp only[Gk];exact .inr (.inr O));refine m.sl (l:=(s.threads++[[i]]).map kD) (by rw[Gi];exact D.er hold (D.bH.2 (iA.2 ⟨_,1,1,rfl,Gb _,ck⟩))) (by simp[h.st.hl]) fun b O=>?_;refine⟨?_,(m.lt b O),g b O⟩;rcases d b O with ac|ac
  ·exact(h.lo b (a8 b ac)).1
  ·omega
 ·have:=(h.o.al aI).on aw fun aS=>h.ne (a8 _ aS);rw[←ah];exact this.aH 2 _
 ·rw[←ah];exact Fr.setCell (Fr.trans (Fr.mono aI fun _ h=>h.elim) (Fr.mono aw fun b O=>(h.lo b (a8 b O)).1)) (.inl h.go) _
theorem dg.push(h:dg B w s G q xs ak ar bS bX){k:Nat}(bu:s.threads[k]?=some (fs++[f])):
  ∃O bY fc cd,q.HA=some ⟨O,0,none⟩∧k<q.hn∧O∈ak++(ar++(bS++bX))∧bY∈ak++(ar++(bS++bX))∧O<w.heap.size∧bY<w.heap.size∧B≤O∧B≤bY∧O≠bY∧O≠G∧bY≠G∧(∀j,w.frozen? ⟨O,j,none⟩=false)∧w.cell? ⟨O,k,none⟩=some (.slice (some ⟨bY,0,none⟩) (fs.length+1) fc)∧
   Own w 76 4 (some ⟨bY,0,none⟩) (fs.length+1) fc cd [bY]∧
   ∀(i:aq) (cs:List Value) (P:Nat→Prop) (az:GR) (aG:Nat) (aQ X:World),(fh i).rep w P cs→(∀b,P b→B≤b∧b<w.heap.size∧b≠G∧b∉ak++(ar++(bS++bX)))→
    Own aQ 76 4 az (fs.length+2) aG (cd++cs) (bB az (fs.length+2) aG)→Fr (fun b=>b=bY) w aQ→(∀b∈bB az (fs.length+2) aG,b=bY∨(w.heap.size≤b∧b<aQ.heap.size))→
    aQ.setCell ⟨O,k,none⟩ (.slice az (fs.length+2) aG)=X→
    q.Is X (fun b=>B≤b∧b<X.heap.size∧b≠G) {s with threads:=s.threads.set k (fs++[f]++[i])}∧ag X G 40 (q.val s)∧Fr (fun b=>B≤b) w X:=by
 obtain⟨Z,x,ay,I,V,t,bh,z,R,M,b0⟩:=h.st.hs.Bm bu;obtain⟨FA,n,c,cd,bI,bq,rfl,rfl,o,bi,aw⟩:=M;have dJ:Z.length=k:=by have:=R.len mN.len;rw[List.length_take,Nat.mul_one] at this;have:=(List.getElem?_eq_some_iff.1 bu).1;omega
 have bU:k<s.threads.length:=(List.getElem?_eq_some_iff.1 bu).1;have aY:k<q.hn:=by rw[h.st.hl];exact bU
 obtain rfl:n=fs.length+1:=by simpa using o
 obtain⟨bY,rfl,rfl,b2,bc,a5,bp⟩:=bi.block ad;obtain⟨O,T,r,N,A,E,K⟩:=h.st.h.block ad;subst z r;have nd:=h.st.nd;have nf:∀b∈(ak++(ar++([O]++I)))++(bq++t),b≠bY:=g6 (by simpa [Gq] using nd);have F:∀b∈(ak++ar)++(I++(bY::(bq++t))),b≠O:=g6 (by simpa [Gq] using nd);have l:O∈ak++(ar++([O]++(I++(([bY]++bq)++t)))):=by simp
 have bP:bY∈ak++(ar++([O]++(I++(([bY]++bq)++t)))):=by simp
 have aW:=A k (.slice (some ⟨bY,0,none⟩) (fs.length+1) c) (by rw[bh,List.getElem?_append_right ad,dJ,Nat.sub_self];rfl);refine⟨O,bY,c,cd,T,aY,l,bP,N,b2,(h.lo _ l).1,(h.lo _ bP).1,nf O (by simp),fun he=>h.ne (he▸l),fun he=>h.ne (he▸bP),E,aW,bi,?_⟩;intro i cs P az aG aQ X cF U aX bL d ah;have bK:=bL.size;have cR:X.heap.size=aQ.heap.size:=by rw[←ah];simp[World.setCell]
 have y:∀b,b<w.heap.size→b≠O→b≠bY→X.heap[b]?=w.heap[b]?:=fun b ao a2 aS=>by
  rw[←ah];exact(cX a2).trans (bL.block b ao aS)
 have mem:∀b,b∈ak++(ar++(I++(bq++t)))→b∈ak++(ar++([O]++(I++(([bY]++bq)++t)))):=fun b O=>by
  simp only[Gk] at O ⊢;rcases O with O|O|O|O|O
  ·exact .inl O
  ·exact .inr (.inl O)
  ·exact .inr (.inr (.inr (.inl O)))
  ·exact .inr (.inr (.inr (.inr (.inl (.inr O)))))
  ·exact .inr (.inr (.inr (.inr (.inr O))))
 have v:∀b∈ak++(ar++(I++(bq++t))),X.heap[b]?=w.heap[b]?:=fun b O=>by
  refine y b (h.lo b (mem b O)).2 (F b ?_) (nf b ?_)
  ·simp only[Gk,Gt] at O ⊢;rcases O with O|O|O|O|O<;>simp[O]
  ·simp only[Gk] at O ⊢;rcases O with O|O|O|O|O<;>simp[O]
 have e:∀b,b∈ak++(ar++(I++(bq++t)))→B≤b∧b<X.heap.size∧b≠G:=fun b O=>⟨(h.lo b (mem b O)).1,by have:=(h.lo b (mem b O)).2;omega,fun he=>h.ne (he▸mem b O)⟩
 have S:∀b,P b→X.heap[b]?=w.heap[b]?:=fun b aN=>by
  obtain⟨_,J,aS,bo⟩:=U b aN;exact y b J (fun he=>bo (he▸l)) (fun he=>bo (he▸bP))
 have da:=h.o.lt;have g:∀b∈bB az (fs.length+2) aG,b≠G∧b≠O:=fun b aN=>by
  rcases d b aN with ac|ac
  ·rw[ac];exact⟨fun he=>h.ne (he▸bP),fun he=>nf O (by simp) he.symm⟩
  ·exact⟨ad,ad⟩
 have m:Own X 76 4 az (fs.length+2) aG (cd++cs) (bB az (fs.length+2) aG):=aX.ao fun b aN=>by rw[←ah];exact cX (g b aN).2
 have C:(fh i).rep X (fun b=>B≤b∧b<X.heap.size∧b≠G) cs:=D.aP (fun b O=>by obtain⟨ac,J,aS,_⟩:=U b O;exact⟨ac,ad,aS⟩) _ _ (D.bg S _ _ cF);have H:D.aL X (fun b=>B≤b∧b<X.heap.size∧b≠G) ((fs++[f]).map fh) cd:=(aw.ao nt.ao fun b O=>v b (by simp[O])).aL nt.rep fun b O=>e b (by simp[O]);have Q:Sl X (fun b=>B≤b∧b<X.heap.size∧b≠G) az (fs.length+2) ((fs++[f]++[i]).map fh):=m.sl (by rw[Gi];exact D.er H (D.bH.2 C)) (by simp) fun b aN=>⟨by
  rcases d b aN with ac|ac
  ·rw[ac];exact(h.lo _ bP).1
  ·have:=h.go;omega,m.lt b aN,(g b aN).1⟩
 refine⟨⟨⟨?_,?_,?_⟩,h.st.g.cap,h.st.t.cap,h.st.h.cap⟩,?_,?_⟩
 ·exact(h.st.g.ao fun b O=>v b (by simp only[Gk];exact .inl O)).sl (d0 _) (by simp[h.st.gl]) fun b O=>e b (by simp only[Gk];exact .inl O)
 ·exact(h.st.t.ao fun b O=>v b (by simp only[Gk];exact .inr (.inl O))).sl (fZ _) (by simp[h.st.tl]) fun b O=>e b (by simp only[Gk];exact .inr (.inl O))
 ·
  have L:Own X 80 1 q.HA q.hn q.hc (xs.set k (.slice az (fs.length+2) aG)) [O]:=by
   have ac:Own aQ 80 1 q.HA q.hn q.hc xs [O]:=h.st.h.ao fun b aN=>bL.block b (aB (GH.1 aN)) (by have:=GH.1 aN;rw[this];exact nf O (by simp));obtain⟨bt,he,bE,_,_,_,a⟩:=ac.block ad;have:bt=O:=by rw[T] at he;injection he with he;injection he with he _;exact he.symm
   subst this;rw[←ah];exact a k _ ad
  have u:D.aL X (fun b=>B≤b∧b<X.heap.size∧b≠G) ((s.threads.set k (fs++[f]++[i])).map kD) (xs.set k (.slice az (fs.length+2) aG)):=by
   have e1:xs.set k (.slice az (fs.length+2) aG)=Z++([.slice az (fs.length+2) aG]++ay):=by
    rw[bh,List.set_append_right _ _ ad,dJ,Nat.sub_self];rfl
   have e2:s.threads.set k (fs++[f]++[i])=s.threads.take k++((fs++[f]++[i])::s.threads.drop (k+1)):=List.set_eq_take_append_cons_drop.trans (by rw[if_pos bU]);rw[e1,e2,Gi,Gh];refine D.er ((R.ao mN.ao fun b O=>v b (by simp[O])).aL mN.rep fun b O=>e b (by simp[O])) ?_;simp only[D.aL];exact⟨_,_,rfl,iA.2 ⟨_,_,_,rfl,m.cap,Q⟩,(b0.ao mN.ao fun b O=>v b (by simp[O])).aL mN.rep fun b O=>e b (by simp[O])⟩
  exact L.sl u (by simp[h.st.hl]) fun b aN=>by rw[GH.1 aN];exact⟨(h.lo _ l).1,ad,fun he=>h.ne (he▸l)⟩
 ·have:=h.o.on bL fun he=>h.ne (he▸bP);rw[←ah];exact this.FD (fun he=>h.ne (he▸l)) _
 ·rw[←ah];exact Fr.setCell (Fr.mono bL fun b aN=>by rw[aN];exact(h.lo _ bP).1) (.inl (h.lo _ l).1) _
end
end Go.Proofs.YtjhgbdckgkppnaaGreat
