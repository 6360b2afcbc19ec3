/- Part 20 of the proof. No condition of its own. -/
import Derived.Test.YtnhhdaggkiomoaaGreatQ19
namespace Go.Proofs.YtnhhdaggkiomoaaGreat
open Go.RowKit Go.Proofs.Tryz
set_option maxRecDepth 1000000
set_option maxHeartbeats 25600000
set_option linter.unusedVariables false
variable{a:Act}{ops:Array Oper}{Q:Exit→Act→World→Prop}{t:Int}{fs:List al}{bytes size:Nat}{o:Oper}{P:Program}{p:Prop}{e:TypeId}{z:Value}{S:World}{R f:al}
def GR(w:World)(a b:List Int×Int)(e:Ending)(ab:World):Prop:=
 (a.2≠0→e=.returned (.tuple #[.slice none 0 0,.slice none 0 0,.int .i64 a.2])∧Ext w ab)∧
 (a.2=0→b.2≠0→e=.returned (.tuple #[.slice none 0 0,.slice none 0 0,.int .i64 b.2])∧Ext w ab)∧
 (a.2=0→b.2=0→∃A n c I aP aK,e=.returned (.tuple #[.slice A n c,.slice I aP aK,.int .i64 0])∧n≤c∧aP≤aK∧Sl ab (fresh w ab) A n (a.1.map D.i)∧Sl ab (fresh w ab) I aP (b.1.map D.i)∧Ext w ab)
def vX(g l:List Int)(es:List VE)(k:Nat):Prop:=∀e∈es.take k,(ev g l e).2=0
theorem np{g l:List Int}:∀{es:List VE},(∀e∈es,(ev g l e).2=0)→cO g l es=(es.map fun e=>(ev g l e).1,0)
 | [],_=>rfl
 | e::es,h=>by
  have ac:=h e (by simp);have av:=np (es:=es) fun x hx=>h x (by simp[hx]);unfold cO;rw[if_neg ad,av,if_neg (by simp)];rfl
theorem nn{g l:List Int}:∀{es:List VE} {k:Nat} {e:VE},vX g l es k→es[k]?=some e→(ev g l e).2≠0→cO g l es=([],(ev g l e).2)
 | [],k,e,_,h,_=>by simp at h
 | x::es,0,e,_,h,O=>by
  simp at h;subst h;unfold cO
  rw[if_pos O]
 | x::es,k+1,e,hu,h,O=>by
  have ac:(ev g l x).2=0:=hu x (by simp);have av:=nn (es:=es) (k:=k) (e:=e) (fun y bb=>hu y (by simp[bb])) (by simpa using h) O;unfold cO;rw[if_neg ad,av,if_pos O]
theorem lZ{u:ay}{s:aj}{f:al}:∀{ps:List bR},(∀p∈ps,(bG u s f p).2=0)→b0 u s f ps=(ps.map fun p=>(bG u s f p).1,0)
 | [],_=>rfl
 | p::ps,h=>by
  have ac:=h p (by simp);have av:=lZ (ps:=ps) fun x hx=>h x (by simp[hx]);unfold b0;rw[if_neg ad,av,if_neg (by simp)];rfl
theorem lY{u:ay}{s:aj}{f:al}:∀{ps:List bR} {k:Nat} {p:bR},(∀x∈ps.take k,(bG u s f x).2=0)→ps[k]?=some p→(bG u s f p).2≠0→b0 u s f ps=([],(bG u s f p).2)
 | [],k,p,_,h,_=>by simp at h
 | x::ps,0,p,_,h,O=>by
  simp at h;subst h;unfold b0
  rw[if_pos O]
 | x::ps,k+1,p,hu,h,O=>by
  have ac:(bG u s f x).2=0:=hu x (by simp);have av:=lY (ps:=ps) (k:=k) (p:=p) (fun y bb=>hu y (by simp[bb])) (by simpa using h) O;unfold b0;rw[if_neg ad,av,if_pos O]
theorem jO.args{u:ay}{s:aj}{cq:cJ}{x:az}{N:Nat}(h:jO u s t f cq x N)(cy:x.op=2∨x.op=3):(∀e∈x.ints,gd (bx u) cq.locals e)∧(∀p∈x.places,cU (bx u) cq.locals cq.av p)∧
  0≤x.target∧∃pc,u.procs[x.target.toNat]?=some pc∧(x.ints.length:Int)=pc.ints∧(x.places.length:Int)=pc.av∧ql (bx u) pc:=by
 obtain⟨len,_,an⟩:=h.ok;rcases an with⟨ac,_⟩|⟨_,_,sg,av,aV,bz,cm,aY,g⟩|⟨ac,_⟩|⟨ac,_⟩|⟨ac,_⟩|⟨ac,_⟩
 ·omega
 ·refine⟨aY,g,av,?_⟩;simp only[bx,List.getElem?_map] at aV
  cases bK:u.procs[x.target.toNat]? with
  | none=>rw[bK] at aV;cases aV
  | some r=>
   rw[bK] at aV;simp only[Option.map_some,Lj] at aV;subst aV;exact⟨r,rfl,bz,cm,h.hU.ok.procs r (KJ bK)⟩
 ·omega
 ·omega
 ·omega
 ·omega
namespace Cq
theorem sr(h:p:=by
 have bC:=ag bb Q;clear bb Q c4 Z bp O aw hG T J;go_upto_region 6 with(fail);generalize hU:World.alloc _ _=U;have cl:=aU hU;have cX:=aG hU;have bi:=aW.2.2.2.trans cl;have cz:=aB cl bi (D.on bC.2 (Fr.ext cl));have I:=(ah.2.2.2.2.2.2.2.on bi)
 have cx:=I.lf;have f2:=I.c2;obtain⟨d0,aL,aM⟩:=cX.two;obtain⟨a8,am,aF⟩:=(ah.2.2.1.ai bi).two;have X:=ae I;clear hU cl cX bi I c0 c1 c2 c3 aX;refine eK (fun _=>False) [(0,0),(1,3),(2,0),(3,3),(4,3),(5,3),(6,0),(7,2),(8,3),(9,3),(10,3),(11,3),(12,3)] ?_;refine ph ?_;refine pf ?_;refine ph ?_
 iterate 3 refine pf ?_
 refine ph ?_;refine ax rfl (fun K hK=>?_);go_simp;have aa:Ext U U.drew:=(Fr.refl _ U).drew;refine(o2 ex U.drew bS IA bL i bD ic s.globals f.ints _ _ _ _ (aQ.1.Ff (aQ.2.1 ex (KJ bC.1)) ((ah.2.2.2.2.2.1.on cz.2.1).on aa).at_.g (X.on aa).ints (D.on cz.2.2 (Fr.ext aa))).1).mono ?_;rintro e aT ⟨rfl,bg⟩;have a4:=ae (show Ext U aT from Fr.aF (Fr.of bg));have an:=fun bt=>nn (k:=k) aW.2.2.1 bC.1 bt;generalize ar:ev s.globals f.ints ex=R at *;obtain⟨r,z⟩:=R;have b2:=ag an ar;clear an ar bg aa d0 aL aM a8 am aF f2 cx X;refine dO hK ?_;clear hK K
 iterate 5 refine pf ?_
 refine aE ?_;by_cases bt:z=0
 ·have q5:(z != 0)=false:=by simpa using bt
  have L:=(aW.2.1.ai cz.1).ai a4.o;have bO:=cz.1.size;have cP:=a4.size;obtain⟨P,bd⟩:=aI L bt;clear bt L;go_wp2_with(at_builtin;refine bQ de rfl (.tmp 46) (.tmp 48) rfl P.o (d:=D.i r) (cs:=#[.int .i64 r]) (by simp only[D.rep]) rfl rfl rfl ad ad ad ?_;intro cC c3 b6 cd g2 cS c9;have b4:=ag cd g2;clear cd g2 cS c9);have bv:∀b,(Value.slice A k c).ownBlock=some b→aS.heap.size≤b:=fun b O=>(P.lt O).1;have a7:Ext aS b6:=Fr.low (M:=fun b=>(Value.slice A k c).ownBlock=some b) (Fr.trans (Fr.mono ((aW.1.trans cz.1).trans a4.o) fun _ h=>h.elim) b4.2) fun b O=>bv b O;have a9:=ae a7;clear bv a7;go_roundw
  case rel=>
   refine⟨k+1,cC,c3,rfl,by go_num,ad,a9.o,?_,fun e he=>?_⟩
   ·rw[aZ bC.1,KN,KN];have ac:=b4.1;exact r5
   ·rw[aZ bC.1] at he;rcases KP.1 he with he|he
    ·exact aW.2.2.1 e he
    ·rw[Li.1 he,b2.2];exact bd.o
  case measure=>exact aH
 ·have q5:(z != 0)=true:=by simpa using bt
  have bV:=ae (b2.1 bt);have bd:=ae bt;clear bt;go_wp2_with(fail)
  go_ret3
  have V:Ext w aT:=((ah.1.trans aW.2.2.2).trans cz.1).trans a4.o;refine⟨fun h=>⟨?_,V⟩,fun h=>absurd h ?_,fun h=>absurd h ?_⟩
  ·rw[bV.o];rfl
  ·rw[bV.o];exact bd.o
  ·rw[bV.o];exact bd.o
 ):p:=h
theorem hv(h:p:=by
 obtain⟨eo,en,es,EA,em,ec,QA,qm,qc,dh,j,db,KA,dk,kc⟩:=v;obtain⟨bh,bn,b1,c6,n,fc,IA,i,ic,S,l,lc,e,hT⟩:=hs.at_.top h.sm h.ht;simp only at e;subst e;obtain⟨ci,cA,_⟩:=h.args cy;have aV:x.ints.length=j:=by have:=bM.ints.1;simpa using this
 have bc:x.places.length=dk:=by have:=bM.places.1;simpa using this
 have cB:j≤200:=by have:=h.il;omega
 have cL:dk≤200:=by have:=h.kl;omega
 have aQ:=cI h ci cA aV bc;have cc:=bH hu hs bM hT;clear h ci cA aV bc hu hs bM hT;dsimp only[UV.val,SV.val,IV.val];go_enter func86,ntmps86;go_upto_region 1 with(fail);generalize ba:World.alloc _ _=W;have aw:=kq ba;have b7:=jo ba;have ce:=g5 ba;have a5:=jq ba;have ah:=pe aw b7 ce a5 (cc.1.on aw) (cc.2.1.on aw) (cc.2.2.1.on aw) (cc.2.2.2.on aw);obtain⟨a8,am,aF⟩:=ce.two;clear ba aw b7 ce a5 cc;go_wp2_with(fail);refine(k3 ah.2.2.2.2.2.2.2 _ _ _).mono ?_;rintro e aS ⟨rfl,aN⟩;have bu:=ae aN;clear a8 am aF;obtain⟨d0,aL,aM⟩:=(ah.2.2.2.1.ai aN).two;clear aN;have m1:=bu.size;have cY:=ah.1.size;go_wp2_with(fail);clear d0 aL aM;go_loopw [11,28] (fun sv cu wr=>∃(k:Nat) (A:Ls) (c:Nat),sv=.slice A k c∧cu=.int .i64 k∧k≤j∧Ext aS wr∧Gr (fun _=>False) aS.heap.size 3 1 wr A k c (((x.ints.take k).map fun e=>(ev s.globals f.ints e).1).map D.i)∧vX s.globals f.ints x.ints k) (fun _ cu _=>j - (intOf cu).toNat)
 case atStart=>exact⟨0,none,0,rfl,rfl,ad,Lo,Gr.nil _ _ _ _ _,fun e he=>by simp at he⟩
 case round=>
  obtain⟨k,A,c,rfl,rfl,ap,aw,hG,T⟩:=hrel;have J:=bu.trans aw;have aW:=bH aw hG T J;have e5:=aw.size;by_cases ak:k<j
  ·obtain⟨b,o,ex,cs,rfl,O,bb,Q,bp,Z⟩:=(ah.2.2.2.2.2.2.1.ints.on (Fr.ext J)).gZ c8 ak;exact sq
  ·obtain rfl:k=j:=ad;have y:cO s.globals f.ints x.ints=(x.ints.map fun e=>(ev s.globals f.ints e).1,0):=np fun e he=>T e (by rw[KO (aD aQ.2.2.2.1)];exact he);have ch:Sl wr (fun b=>aS.heap.size≤b∧b<wr.heap.size) A k ((cO s.globals f.ints x.ints).1.map D.i):=by
    have a2:=hG;rw[KO (aD aQ.2.2.2.1)] at a2;rw[y];exact a2.sl (fun b _ h=>h.elim) fun b ak O=>⟨O,ak⟩
   have bI:=hG.cap.1;obtain⟨cN,rfl⟩:∃cN,cN=wr:=⟨wr,rfl⟩
   have HA:=aB ch bI y;obtain⟨d0,aL,aM⟩:=(ah.2.2.2.1.ai J).two;clear aw hG T J y ch bI;go_wp2_with(fail);clear d0 aL aM;go_loopw [12,54] (fun sv cu wr=>∃(m:Nat) (B:Ls) (aK:Nat),sv=.slice B m aK∧cu=.int .i64 m∧m≤dk∧Ext cN wr∧Gr (fun _=>False) cN.heap.size 3 1 wr B m aK (((x.places.take m).map fun p=>(bG u s f p).1).map D.i)∧∀p∈x.places.take m,(bG u s f p).2=0) (fun _ cu _=>dk - (intOf cu).toNat)
   case atStart=>exact⟨0,none,0,rfl,rfl,ad,Lo,Gr.nil _ _ _ _ _,fun e he=>by simp at he⟩
   case round=>
    obtain⟨m,B,aK,rfl,rfl,hm,aw,hG,T⟩:=hrel;have J:=aW.2.2.2.trans aw;have bY:=bH aw hG T J;have dI:=aw.size;by_cases dq:m<dk
    ·obtain⟨b,o,pl,bU,cQ,zc,rfl,O,bb,cE,cw,cG,bm,cR⟩:=(ah.2.2.2.2.2.2.1.places.on (Fr.ext J)).oQ dq;have aX:b<wr.heap.size:=O;have bC:=aB bb bm cR;clear bb bm cR O aw hG T J;go_upto_region 14 with(fail);generalize hU:World.alloc _ _=U;have cl:=aU hU;have cX:=aG hU;have bi:=bY.2.2.2.trans cl;have cz:=aB cl bi (dT.2 ⟨bU,cQ,zc,rfl,bC.2.1,bC.2.2.on (Fr.ext cl)⟩:(di pl).rep U (au U) [.bool pl.param,.int .i64 pl.index,.slice bU cQ zc]);obtain⟨d0,aL,aM⟩:=cX.two;obtain⟨a8,am,aF⟩:=(ah.2.2.1.ai bi).two;obtain⟨a0,ai,af⟩:=(ah.2.1.ai bi).two;clear hU cl cX bi cE cw cG aX;go_wp2_with(fail);refine(pX u s t f pl N U ⟨GA,gn,gc,MA,mn,mc,PA,pn,pc⟩ ⟨bS,bL,bD,TA,tn,tc,some ⟨bh,bn,none⟩,hn,hc⟩ bU cQ zc ⟨aQ.1.hU.ok,aQ.1.hS,aQ.1.sm,aQ.1.ht,⟨cq,aQ.1.hp,aQ.2.2.1 pl (KJ bC.1)⟩,ah.2.2.2.2.1.on cz.2.1,ah.2.2.2.2.2.1.on cz.2.1,cz.2.2⟩).mono ?_;rintro e aT ⟨rfl,bg⟩;rw[ix aQ.1.ht];have a4:=ae (show Ext U aT from Fr.of bg);have an:=fun bt=>lY (k:=m) bY.2.2.1 bC.1 bt;generalize ar:bG u s f pl=R at *;obtain⟨r,z⟩:=R;have b2:=ag an ar;clear an ar bg d0 aL aM a8 am aF a0 ai af;by_cases bt:z=0
     ·have q5:(z != 0)=false:=by simpa using bt
      have L:=(bY.2.1.ai cz.1).ai a4.o;have bO:=cz.1.size;have cP:=a4.size;obtain⟨P,bd⟩:=aI L bt;clear bt L;go_wp2_with(at_builtin;refine bQ de rfl (.tmp 69) (.tmp 71) rfl P.o (d:=D.i r) (cs:=#[.int .i64 r]) (by simp only[D.rep]) rfl rfl rfl ad ad ad ?_;intro cC c3 b6 cd g2 cS c9;have b4:=ag cd g2;clear cd g2 cS c9);have bv:∀b,(Value.slice B m aK).ownBlock=some b→cN.heap.size≤b:=fun b O=>(P.lt O).1;have a7:Ext cN b6:=Fr.low (M:=fun b=>(Value.slice B m aK).ownBlock=some b) (Fr.trans (Fr.mono ((bY.1.trans cz.1).trans a4.o) fun _ h=>h.elim) b4.2) fun b O=>bv b O;have a9:=ae a7;clear bv a7;go_roundw
      case rel=>
       refine⟨m+1,cC,c3,rfl,by go_num,ad,a9.o,?_,fun e he=>?_⟩
       ·rw[aZ bC.1,KN,KN];have ac:=b4.1;exact r5
       ·rw[aZ bC.1] at he;rcases KP.1 he with he|he
        ·exact bY.2.2.1 e he
        ·rw[Li.1 he,b2.2];exact bd.o
      case measure=>exact aH
     ·have q5:(z != 0)=true:=by simpa using bt
      have bV:=ae (b2.1 bt);have bd:=ae bt;clear bt;go_wp2_with(fail)
      go_ret3
      have V:Ext w aT:=((ah.1.trans bY.2.2.2).trans cz.1).trans a4.o;refine⟨fun h=>absurd ?_ h,fun _ h=>⟨?_,V⟩,fun _ h=>absurd h ?_⟩
      ·rw[HA.2.2]
      ·rw[bV.o];rfl
      ·rw[bV.o];exact bd.o
    ·obtain rfl:m=dk:=ad;have y:b0 u s f x.places=(x.places.map fun p=>(bG u s f p).1,0):=lZ fun e he=>T e (by rw[KO (aD aQ.2.2.2.2)];exact he);have ch:Sl wr (fresh w wr) B m ((b0 u s f x.places).1.map D.i):=by
      have a2:=hG;rw[KO (aD aQ.2.2.2.2)] at a2;rw[y];exact a2.sl (fun b _ h=>h.elim) fun b ak O=>⟨ad,ak⟩
     have bI:=hG.cap.1;have ca:=aB ch bI y;clear aw hG T J y ch bI;go_wp2_with(fail)
     go_ret3
     refine⟨fun h=>absurd ?_ h,fun _ h=>absurd ?_ h,fun _ _=>⟨A,k,c,B,m,aK,rfl,HA.2.1,ca.2.1,(HA.1.ak fun b O=>bY.1.block b O.2 fun h=>h).mono fun b O=>⟨by have:=O.1;omega,by have:=O.2;omega⟩,ca.1,ah.1.trans bY.2.2.2⟩⟩
     ·rw[HA.2.2]
     ·rw[ca.2.2]
 ):p:=h
end Cq
open Cq in
theorem v8(u:ay)(s:aj)(t:Int)(f:al)(cq:cJ)(x:az)(N:Nat)(w:World)(p:UV)(q:SV)(v:IV)(h:jO u s t f cq x N)(cy:x.op=2∨x.op=3)(hu:p.Ok w u)(hs:q.Ok w s)(bM:v.Ok w x) :
  Calls prog 86 #[.agg (p.val u),.agg (q.val s),.int .i64 t,.agg (v.val x)] w (GR w (cO s.globals f.ints x.ints) (b0 u s f x.places)):=by
 exact hr
theorem x5{t:TypeId}{K:Act→World→Prop}(bw:ch P t e z size bytes)(s x:Operand)
  (bn:o.op=.call {callee:=.builtin .append,args:=#[s,x],argTypes:=#[t,t]})
  {A:Ls} {n c g:Nat} {xs:List Value} {F:List Nat} (h0:Own S e size A n c xs F) {cs:Array Value} {i:TypeId} (aR:aq S g i cs)
  (hs:a.eval s=.slice A n c) (hx:a.eval x=.slice (some ⟨g,0,none⟩) 1 1) (T:cs.size=size) (ac:∀u∈cs.toList,u.oneCell'=true)
  (r:(n+1)*bytes≤140737488355328) (y:n+1≤140737488355328)
  (h:∀I aK ab,Own ab e size I (n+1) aK (xs++cs.toList) (bq I (n+1) aK)→Fr (fun b=>b∈F) S ab→(∀b∈bq I (n+1) aK,b∈F∨(S.heap.size≤b∧b<ab.heap.size))→K (a.put o.dst (.slice I (n+1) aK)) ab):o.wp P a S K Q:=by
 have ay:Src S size (some ⟨g,0,none⟩) 1 cs.toList:=⟨by simpa using T,ac,fun _=>⟨g,0,rfl,fun j u bi=>by
  rw[KY,aR.cell];simpa using bi⟩⟩
 refine j8 _ bw s x bn 0 _ n xs hs h0.row _ 1 1 cs.toList hx ay r y (Ld _) (fun h=>nomatch h) fun G ab bP cU H=>?_;obtain⟨I,aK,rfl,hc,_⟩:=b2 bP;refine h I aK ab ⟨bP,rfl⟩ (Lo.grown cU fun g a2=>.inl (by rw[h0.eq];simp[a2])) fun b O=>?_;have aX:(Value.slice I (n+1) aK).ownBlock=some b:=by simpa using O
 rcases H with H|H
 ·rw[H] at aX;exact .inl (by rw[h0.eq];simp[aX])
 ·have:=(bP.lt b aX).2;rw[H] at aX;injection aX with aX;right;omega
theorem l4{R:World→World→Prop}{rest:List (Nat×Nat)}{W:World}(C:World→Prop)(hC:C W)(h:∀V,C V→b5 P ops Q R rest a V):b5 P ops Q R rest a W:=h W hC
theorem uj{s:aj}{a6:al}(h:s.threads[t.toNat]?=some (fs++[f])):qn (bs s t a6) t R={s with threads:=(s.threads.set t.toNat (fs++[a6])).set t.toNat (fs++[a6]++[R])}:=by
 rw[dZ h];unfold qn;have ak:=(List.getElem?_eq_some_iff.1 h).1;rw[k2 (x:=fs++[a6]) (by simp[ak])]
theorem m0{t:TypeId}{rest:List Oper}(bw:ch P t e z size bytes)(i:o.guard=none)(s x:Operand)
  (bn:o.op=.call {callee:=.builtin .append,args:=#[s,x],argTypes:=#[t,t]})
  {A:Ls} {n c g:Nat} {xs:List Value} {F:List Nat} (h0:Own S e size A n c xs F) {cs:Array Value}
  (hs:a.eval s=.slice A n c) (hx:a.eval x=.slice (some ⟨g,0,none⟩) 1 1) (a2:g=S.heap.size) (T:cs.size=size) (ac:∀u∈cs.toList,u.oneCell'=true)
  (r:(n+1)*bytes≤140737488355328) (y:n+1≤140737488355328)
  (h:∀I aK ab,Own ab e size I (n+1) aK (xs++cs.toList) (bq I (n+1) aK)→Fr (fun b=>b∈F) S ab→(∀b∈bq I (n+1) aK,b∈F∨(S.heap.size≤b∧b<ab.heap.size))→wpList P ops Q rest (a.put o.dst (.slice I (n+1) aK)) ab):wpList P ops Q (o::rest) a (S.alloc (.cells cs e)):=by
 subst a2;exact oe bw i s x bn h0 hs hx T ac r y h
section
variable {B:Nat} {w ab:World} {s:aj} {N:Nat} {q:SV} {xs:List Value} {F1 F2 bQ cb:List Nat}
theorem ka.Es{α:Type}{E:World→α→List Value→List Nat→Prop}{w:World}:∀{l:List α} {xs:List Value} {F:List Nat},ka E w l xs F→∀{k:Nat} {a:α},l[k]?=some a→
  ∃Z x bv F1 f F2,xs=Z++(x++bv)∧F=F1++(f++F2)∧ka E w (l.take k) Z F1∧E w a x f∧ka E w (l.drop (k+1)) bv F2
 | [],_,_,_,k,a,ap=>by simp at ap
 | b::l,xs,F,h,0,a,ap=>by
  obtain⟨x,y,F1,F2,rfl,rfl,ac,av⟩:=h;simp only[List.getElem?_cons_zero,Lj] at ap;subst ap
  exact⟨[],x,y,[],F1,F2,rfl,rfl,⟨rfl,rfl⟩,ac,av⟩
 | b::l,xs,F,h,k+1,a,ap=>by
  obtain⟨bs,y,g,R,rfl,rfl,ac,av⟩:=h;simp only[List.getElem?_cons_succ] at ap;obtain⟨Z,x,bv,F1,f,F2,rfl,rfl,aV,bz,cm⟩:=ka.Es av ap;exact⟨bs++Z,x,bv,g++F1,f,F2,by simp,by simp,⟨bs,Z,g,F1,rfl,rfl,ac,aV⟩,bz,cm⟩
theorem pW{α β:Type}(g:α→β):∀(l:List α) (k:Nat) (x:α),(l.set k x).map g=(l.map g).set k (g x)
 | [],_,_=>rfl
 | _::_,0,_=>rfl
 | a::l,k+1,x=>by simp[pW g l k x]
theorem dy.start(h:dy B w s N q xs F1 F2 bQ cb){c0 c1 c2 c3:Value}{P:Nat→Prop}(cV:(er R).rep w P [c0,c1,c2,c3])(aZ:∀b,P b→B≤b∧b<w.heap.size∧b≠N∧b∉F1++(F2++(bQ++cb)))
  {aS aT X:World} (ao:w.alloc (.cells #[c0,c1,c2,c3] 73)=aS) {I:Ls} {aK:Nat}
  (a5:Own aT 69 1 I (q.hn+1) aK (xs++[.slice (some ⟨w.heap.size,0,none⟩) 1 1]) (bq I (q.hn+1) aK)) (J:Fr (fun b=>b∈bQ) aS aT) (r:∀b∈bq I (q.hn+1) aK,b∈bQ∨(aS.heap.size≤b∧b<aT.heap.size))
  (hX:aT.setCell ⟨N,2,none⟩ (.slice I (q.hn+1) aK)=X) :
  let ar:SV:=⟨q.GA,q.gn,q.gc,q.TA,q.tn,q.tc,I,q.hn+1,aK⟩
  let Q:aj:={s with threads:=s.threads++[[R]]}
  ar.Is X (fun b=>B≤b∧b<X.heap.size∧b≠N) Q∧aq X N 40 (ar.val Q)∧Fr (fun b=>B≤b) w X:=by
 intro ar Q;have dG:aS.heap.size=w.heap.size+1:=by rw[←ao];simp
 have aN:=aU ao;have v:=aG ao;have bO:=J.size;have H:X.heap.size=aT.heap.size:=by rw[←hX];simp[World.setCell]
 have nd:=h.st.nd;have n1:=wh.1 nd;have d3:∀b∈F1++(F2++cb),b∉bQ:=fun b O aV=>(List.nodup_append.1 n1).2.2 b aV b O rfl;have cO:∀b,b∈bQ→b∈F1++(F2++(bQ++cb)):=fun b O=>by simp[O]
 have bn:∀b,b∈F1++(F2++cb)→b∈F1++(F2++(bQ++cb)):=fun b O=>by
  exact zj
 have y:∀b,b<aS.heap.size→b≠N→b∉bQ→X.heap[b]?=aS.heap[b]?:=fun b ak bf aV=>by
  rw[←hX];exact(aR bf).trans (J.block b ak aV)
 have i:∀b∈F1++(F2++cb),X.heap[b]?=w.heap[b]?:=fun b O=>by
  have hl:=(h.lo b (bn b O)).2;exact(y b ad (fun he=>h.ne (he▸bn b O)) (d3 b O)).trans (aN.block b hl fun h=>h)
 have a:∀b,b∈F1++(F2++cb)→B≤b∧b<X.heap.size∧b≠N:=fun b O=>⟨(h.lo b (bn b O)).1,by have:=(h.lo b (bn b O)).2;omega,fun he=>h.ne (he▸bn b O)⟩
 have cW:=h.o.lt;have F:∀b,P b→X.heap[b]?=w.heap[b]?:=fun b O=>by
  obtain⟨_,av,aV,bz⟩:=aZ b O;exact(y b ad aV (fun cm=>bz (cO b cm))).trans (aN.block b av fun h=>h)
 have m:B≤w.heap.size:=by have:=h.go;omega
 have bG:aq X w.heap.size 73 #[c0,c1,c2,c3]:=(y _ ad ad (fun cm=>by have:=(h.lo _ (cO _ cm)).2;omega)).trans v;have cf:(er R).rep X (fun b=>B≤b∧b<X.heap.size∧b≠N) [c0,c1,c2,c3]:=D.aL (fun b O=>by obtain⟨ac,av,aV,_⟩:=aZ b O;exact⟨ac,ad,aV⟩) _ _ (D.aS F _ _ cV);have ch:Sl X (fun b=>B≤b∧b<X.heap.size∧b≠N) (some ⟨w.heap.size,0,none⟩) 1 ([R].map er):=⟨rfl,fun _=>⟨w.heap.size,0,[c0,c1,c2,c3],rfl,⟨m,ad,ad⟩,by simp only[KM,Le];exact D.bj.2 cf,fun j u hu=>by
  rw[KY,bG.cell];simpa using hu⟩⟩
 have d:∀b∈bq I (q.hn+1) aK,b≠N:=fun b O=>by
  rcases r b O with ac|ac
  ·exact fun he=>h.ne (he▸cO b ac)
  ·omega
 have e:Own X 69 1 I (q.hn+1) aK (xs++[.slice (some ⟨w.heap.size,0,none⟩) 1 1]) (bq I (q.hn+1) aK):=a5.ak fun b O=>by rw[←hX];exact aR (d b O)
 refine⟨⟨⟨?_,?_,?_⟩,h.st.g.cap,h.st.t.cap,a5.cap⟩,?_,?_⟩
 ·exact(h.st.g.ak fun b O=>i b (by simp only[KP];exact .inl O)).sl (cu _) (by rw[KK];exact h.st.gl.symm) fun b O=>a b (by simp only[KP];exact .inl O)
 ·exact(h.st.t.ak fun b O=>i b (by simp only[KP];exact .inr (.inl O))).sl (dw _) (by rw[KK];exact h.st.tl.symm) fun b O=>a b (by simp only[KP];exact .inr (.inl O))
 ·have hold:D.aQ X (fun b=>B≤b∧b<X.heap.size∧b≠N) (s.threads.map jP) xs:=(h.st.hs.ak oj.ak fun b O=>i b (by simp only[KP];exact .inr (.inr O))).aQ oj.rep fun b O=>a b (by simp only[KP];exact .inr (.inr O));refine e.sl (l:=(s.threads++[[R]]).map jP) (by rw[KN];exact D.cH hold (D.bj.2 (eS.2 ⟨_,1,1,rfl,KG _,ch⟩))) (by simp[h.st.hl]) fun b O=>?_;refine⟨?_,(e.lt b O),d b O⟩;rcases r b O with ac|ac
  ·exact(h.lo b (cO b ac)).1
  ·omega
 ·have:=(h.o.ai aN).on J fun aV=>h.ne (cO _ aV);rw[←hX];exact this.aM 2 _
 ·rw[←hX];exact Fr.setCell (Fr.trans (Fr.mono aN fun _ h=>h.elim) (Fr.mono J fun b O=>(h.lo b (cO b O)).1)) (.inl h.go) _
theorem dy.push(h:dy B w s N q xs F1 F2 bQ cb){k:Nat}(bK:s.threads[k]?=some (fs++[f])):
  ∃O b1 fc cK,q.HA=some ⟨O,0,none⟩∧k<q.hn∧O∈F1++(F2++(bQ++cb))∧b1∈F1++(F2++(bQ++cb))∧O<w.heap.size∧b1<w.heap.size∧B≤O∧B≤b1∧O≠b1∧O≠N∧b1≠N∧(∀j,w.frozen? ⟨O,j,none⟩=false)∧w.cell? ⟨O,k,none⟩=some (.slice (some ⟨b1,0,none⟩) (fs.length+1) fc)∧
   Own w 73 4 (some ⟨b1,0,none⟩) (fs.length+1) fc cK [b1]∧
   ∀(R:al) (cs:List Value) (P:Nat→Prop) (I:Ls) (aK:Nat) (aT X:World),(er R).rep w P cs→(∀b,P b→B≤b∧b<w.heap.size∧b≠N∧b∉F1++(F2++(bQ++cb)))→
    Own aT 73 4 I (fs.length+2) aK (cK++cs) (bq I (fs.length+2) aK)→Fr (fun b=>b=b1) w aT→(∀b∈bq I (fs.length+2) aK,b=b1∨(w.heap.size≤b∧b<aT.heap.size))→
    aT.setCell ⟨O,k,none⟩ (.slice I (fs.length+2) aK)=X→
    q.Is X (fun b=>B≤b∧b<X.heap.size∧b≠N) {s with threads:=s.threads.set k (fs++[f]++[R])}∧aq X N 40 (q.val s)∧Fr (fun b=>B≤b) w X:=by
 obtain⟨Z,x,bv,U,G,g,cd,aa,E,aL,cM⟩:=h.st.hs.Es bK;obtain⟨FA,n,c,cK,bJ,bD,rfl,rfl,ct,bn,J⟩:=aL;have dN:Z.length=k:=by have:=E.len oj.len;rw[List.length_take,Nat.mul_one] at this;have:=(List.getElem?_eq_some_iff.1 bK).1;omega
 have bc:k<s.threads.length:=(List.getElem?_eq_some_iff.1 bK).1;have cp:k<q.hn:=by rw[h.st.hl];exact bc
 obtain rfl:n=fs.length+1:=by simpa using ct
 obtain⟨b1,rfl,rfl,cf,aC,ah,cj⟩:=bn.block ad;obtain⟨O,mC,aY,cE,o,t,A⟩:=h.st.h.block ad;subst aa aY;have nd:=h.st.nd;have nf:∀b∈(F1++(F2++([O]++U)))++(bD++g),b≠b1:=eF (by simpa[KU] using nd);have z:∀b∈(F1++F2)++(U++(b1::(bD++g))),b≠O:=eF (by simpa[KU] using nd);have l:O∈F1++(F2++([O]++(U++(([b1]++bD)++g)))):=by simp
 have be:b1∈F1++(F2++([O]++(U++(([b1]++bD)++g)))):=by simp
 have cm:=o k (.slice (some ⟨b1,0,none⟩) (fs.length+1) c) (by rw[cd,List.getElem?_append_right ad,dN,Nat.sub_self];rfl);refine⟨O,b1,c,cK,mC,cp,l,be,cE,cf,(h.lo _ l).1,(h.lo _ be).1,nf O (by simp),fun he=>h.ne (he▸l),fun he=>h.ne (he▸be),t,cm,bn,?_⟩;intro R cs P I aK aT X cV aZ a5 bE r hX;have bO:=bE.size;have H:X.heap.size=aT.heap.size:=by rw[←hX];simp[World.setCell]
 have y:∀b,b<w.heap.size→b≠O→b≠b1→X.heap[b]?=w.heap[b]?:=fun b ak bf aV=>by
  rw[←hX];exact(aR bf).trans (bE.block b ak aV)
 have mem:∀b,b∈F1++(F2++(U++(bD++g)))→b∈F1++(F2++([O]++(U++(([b1]++bD)++g)))):=fun b O=>by
  simp only[KP] at O ⊢;rcases O with O|O|O|O|O
  ·exact .inl O
  ·exact .inr (.inl O)
  ·exact .inr (.inr (.inr (.inl O)))
  ·exact .inr (.inr (.inr (.inr (.inl (.inr O)))))
  ·exact .inr (.inr (.inr (.inr (.inr O))))
 have i:∀b∈F1++(F2++(U++(bD++g))),X.heap[b]?=w.heap[b]?:=fun b O=>by
  refine y b (h.lo b (mem b O)).2 (z b ?_) (nf b ?_)
  ·simp only[KP,KW] at O ⊢;rcases O with O|O|O|O|O<;>simp[O]
  ·simp only[KP] at O ⊢;rcases O with O|O|O|O|O<;>simp[O]
 have a:∀b,b∈F1++(F2++(U++(bD++g)))→B≤b∧b<X.heap.size∧b≠N:=fun b O=>⟨(h.lo b (mem b O)).1,by have:=(h.lo b (mem b O)).2;omega,fun he=>h.ne (he▸mem b O)⟩
 have F:∀b,P b→X.heap[b]?=w.heap[b]?:=fun b aX=>by
  obtain⟨_,av,aV,bz⟩:=aZ b aX;exact y b av (fun he=>bz (he▸l)) (fun he=>bz (he▸be))
 have cW:=h.o.lt;have d:∀b∈bq I (fs.length+2) aK,b≠N∧b≠O:=fun b aX=>by
  rcases r b aX with ac|ac
  ·rw[ac];exact⟨fun he=>h.ne (he▸be),fun he=>nf O (by simp) he.symm⟩
  ·exact⟨ad,ad⟩
 have e:Own X 73 4 I (fs.length+2) aK (cK++cs) (bq I (fs.length+2) aK):=a5.ak fun b aX=>by rw[←hX];exact aR (d b aX).2
 have u:(er R).rep X (fun b=>B≤b∧b<X.heap.size∧b≠N) cs:=D.aL (fun b O=>by obtain⟨ac,av,aV,_⟩:=aZ b O;exact⟨ac,ad,aV⟩) _ _ (D.aS F _ _ cV);have v:D.aQ X (fun b=>B≤b∧b<X.heap.size∧b≠N) ((fs++[f]).map er) cK:=(J.ak o9.ak fun b O=>i b (by simp[O])).aQ o9.rep fun b O=>a b (by simp[O]);have C:Sl X (fun b=>B≤b∧b<X.heap.size∧b≠N) I (fs.length+2) ((fs++[f]++[R]).map er):=e.sl (by rw[KN];exact D.cH v (D.bj.2 u)) (by simp) fun b aX=>⟨by
  rcases r b aX with ac|ac
  ·rw[ac];exact(h.lo _ be).1
  ·have:=h.go;omega,e.lt b aX,(d b aX).1⟩
 refine⟨⟨⟨?_,?_,?_⟩,h.st.g.cap,h.st.t.cap,h.st.h.cap⟩,?_,?_⟩
 ·exact(h.st.g.ak fun b O=>i b (by simp only[KP];exact .inl O)).sl (cu _) (by simp[h.st.gl]) fun b O=>a b (by simp only[KP];exact .inl O)
 ·exact(h.st.t.ak fun b O=>i b (by simp only[KP];exact .inr (.inl O))).sl (dw _) (by simp[h.st.tl]) fun b O=>a b (by simp only[KP];exact .inr (.inl O))
 ·
  have vT:Own X 69 1 q.HA q.hn q.hc (xs.set k (.slice I (fs.length+2) aK)) [O]:=by
   have ac:Own aT 69 1 q.HA q.hn q.hc xs [O]:=h.st.h.ak fun b aX=>bE.block b (aD (Li.1 aX)) (by have:=Li.1 aX;rw[this];exact nf O (by simp));obtain⟨bg,he,bw,_,_,_,L⟩:=ac.block ad;have:bg=O:=by rw[mC] at he;injection he with he;injection he with he _;exact he.symm
   subst this;rw[←hX];exact L k _ ad
  have m:D.aQ X (fun b=>B≤b∧b<X.heap.size∧b≠N) ((s.threads.set k (fs++[f]++[R])).map jP) (xs.set k (.slice I (fs.length+2) aK)):=by
   have e1:xs.set k (.slice I (fs.length+2) aK)=Z++([.slice I (fs.length+2) aK]++bv):=by
    rw[cd,List.set_append_right _ _ ad,dN,Nat.sub_self];rfl
   have e2:s.threads.set k (fs++[f]++[R])=s.threads.take k++((fs++[f]++[R])::s.threads.drop (k+1)):=List.set_eq_take_append_cons_drop.trans (by rw[if_pos bc]);rw[e1,e2,KN,KM];refine D.cH ((E.ak oj.ak fun b O=>i b (by simp[O])).aQ oj.rep fun b O=>a b (by simp[O])) ?_;simp only[D.aQ];exact⟨_,_,rfl,eS.2 ⟨_,_,_,rfl,e.cap,C⟩,(cM.ak oj.ak fun b O=>i b (by simp[O])).aQ oj.rep fun b O=>a b (by simp[O])⟩
  exact vT.sl m (by simp[h.st.hl]) fun b aX=>by rw[Li.1 aX];exact⟨(h.lo _ l).1,ad,fun he=>h.ne (he▸l)⟩
 ·have:=h.o.on bE fun he=>h.ne (he▸be);rw[←hX];exact this.Ja (fun he=>h.ne (he▸l)) _
 ·rw[←hX];exact Fr.setCell (Fr.mono bE fun b aX=>by rw[aX];exact(h.lo _ be).1) (.inl (h.lo _ l).1) _
end
end Go.Proofs.YtnhhdaggkiomoaaGreat
