/- Part 23 of the proof (RcA RcB RcC RcD RcE RnA RnB), without conditions of its own. -/
import Derived.Test.YtjhgbdckgkppnaaGreatQ22
namespace Go.Proofs.YtjhgbdckgkppnaaGreat
open Go.RowKit Go.Proofs.Tryz
set_option maxRecDepth 1000000
set_option maxHeartbeats 25600000
set_option linter.unusedVariables false
variable{F:List Nat}{xs:List Value}{n:Nat}{e:TypeId}{v1 v2:Value}{ab:World}
def hf(w:World)(p:Prop)(e:Ending)(ab:World):Prop:=∃b:Bool,e=.returned (.bool b)∧(b=true↔p)∧Ext w ab
theorem rb{f g:aq}:f=g↔f.proc=g.proc∧f.pc=g.pc∧f.ints=g.ints∧f.av=g.av:=by
 cases f;cases g;simp
namespace zt
theorem gz{p:Prop}(h:p:=by
 refine bU ?_;generalize cb:World.setCell _ _ _=Y;have J:=la 0 [.int .i64 g.proc,.int .i64 g.pc,.slice cZ z cN,.slice KA v kc] aU.2.2 cb;have cW:Ext wr Y:=Fr.low (M:=fun b=>¬b<wr.heap.size) (Fr.trans aU.1 (J.2.mono fun b O=>ad)) fun b O=>ad;have o:ag Y N 76 #[.int .i64 f.proc,.int .i64 f.pc,.slice IA x ic,.slice bj y lc]:=aU.2.1.on J.2 a2;have dq:ag Y gc 76 #[.int .i64 g.proc,.int .i64 g.pc,.slice cZ z cN,.slice KA v kc]:=J.1;have bM:=aK cW o dq;obtain⟨e0,bl,a5⟩:=o.two;clear fn bK dr;obtain⟨fn,bK,dr⟩:=dq.two;have cr:∀{q:Prop},¬q→(l=k→q)→(false=true↔l=k):=fun ac J=>⟨fun h=>(by cases h),fun h=>absurd (J h) ac⟩
 have aH:l=k→f=g:=fun h=>by have ac:=bW.1;have J:=bW.2.1;rw[h,J] at ac;injection ac with ac;exact ac.symm
 have aO:=ai aH trivial;clear cb J cW o dq cr aH;have aT:Ext w Y:=(aj.1.trans bh.1).trans bM.1;have aD:=ae aT;clear aT;by_cases ac:f.proc=g.proc
 case neg=>
  have bb:(f.proc != g.proc)=true:=by simpa using ac
  have u:=ae ac;clear ac;exact wj
 have bb:(f.proc != g.proc)=false:=by simpa using ac
 have H1:=ae ac;clear ac;by_cases J:f.pc=g.pc
 case neg=>
  have c6:(f.pc != g.pc)=true:=by simpa using J
  have u:=ae J;clear J;exact wj
 have c6:(f.pc != g.pc)=false:=by simpa using J
 have bk:=ae J;clear J;go_wp2_with (fail);have s:=bM.1;refine(gX IA cZ x ic z cN f.ints g.ints Y (bW.2.2.1.on (Fr.ext s)) (bW.2.2.2.2.1.on (Fr.ext s)) ad).mono ?_;rintro r aQ ⟨rfl,bt⟩;clear s;have aW:=ae (show Ext Y aQ from Fr.of bt);clear bt e0 bl a5 fn bK dr;obtain⟨e0,bl,a5⟩:=(bM.2.1.al aW.o).two;obtain⟨fn,bK,dr⟩:=(bM.2.2.al aW.o).two
 cases aS:decide (f.ints=g.ints) with
 | false=>
  have u:=ae (of_decide_eq_false aS);clear aS;go_wp2_with (fail);go_ret
  exact⟨false,rfl,⟨fun h=>(by cases h),fun h=>absurd (by rw[aO.1 h]) u.o⟩,aD.trans aW.o⟩
 | true=>
  have bH:=ae (of_decide_eq_true aS);clear aS;go_wp2_with (fail);have s:=bM.1.trans aW.o;refine(gX bj KA y lc v kc f.av g.av aQ (bW.2.2.2.1.on (Fr.ext s)) (bW.2.2.2.2.2.on (Fr.ext s)) ad).mono ?_;rintro r bJ ⟨rfl,bz⟩;clear s;have b6:=ae (show Ext aQ bJ from Fr.of bz);clear bz e0 bl a5 fn bK dr
  cases bo:decide (f.av=g.av) with
  | false=>
   have u:=ae (of_decide_eq_false bo);clear bo;go_wp2_with (fail);go_ret
   exact⟨false,rfl,⟨fun h=>(by cases h),fun h=>absurd (by rw[aO.1 h]) u.o⟩,(aD.trans aW.o).trans b6.o⟩
  | true=>
   have cw:=ae (of_decide_eq_true bo);clear bo;go_wp2_with (fail);go_roundw
   case rel=>
    have aV:f=g:=rb.2 ⟨H1.o,bk.o,bH.o,cw.o⟩;refine⟨i+1,by go_num,ad,((bh.1.trans bM.1).trans aW.o).trans b6.o,fun j ba=>?_⟩;by_cases G:j=i
    ·rw[G,bW.1,bW.2.1,aV]
    ·exact bh.2 j ad
   case measure=>simp[intOf];omega
 ):p:=h
theorem xD{p:Prop}(h:p:=by
 have aN:x≤100000:=ad;have aZ:y≤100000:=ad;have bW:=dz ay T t b2 ab cc;clear av L ci cl ay T t b2 ab cc Z aM bc aX H bN aA;obtain⟨ws,b9⟩:∃ws,ws=wr.heap.size:=⟨_,rfl⟩
 have ar:bY<ws:=ad;have dd:b1<ws:=ad;have a3:w.heap.size<ws:=ad;have a4:w.heap.size+1<ws:=ad;have U:=ae b9;clear b9;go_upto_region 6 with(fail);refine o2 (fun b=>¬b<ws) [13] (.free 0 (.held 1 (.free 2 (.free 3 (.held 4 (.free 5 (.held 6 (.free 7 (.free 8 (.held 9 (.pick [10,11] (fun i=>bif i == 10 then .pick [11] (fun _=>.pick [12] (fun _=>.pick [13] (fun _=>.stop))) else .pick [10] (fun _=>.pick [12] (fun _=>.pick [13] (fun _=>.stop))))))))))))))) ?_;refine tf ?_;refine mE ?_
 iterate 2 refine tf ?_
 refine mE ?_;refine tf ?_;refine mE ?_
 iterate 2 refine tf ?_
 refine mE ?_;refine oJ (P:=?dn) (ops:=?dS) (Q:=?co) (R:=?fg) (tails:=?dc) (rest:=.pick [12] (fun _=>.pick [13] (fun _=>.stop))) (aa:=?aa) (C:=fun(N gc:Nat) V=>Ext wr V∧ag V N 76 #[.int .i64 0,.int .i64 0,.slice none 0 0,.slice none 0 0]∧ag V gc 76 #[.int .i64 0,.int .i64 0,.slice none 0 0,.slice none 0 0]∧N≠gc∧wr.heap.size≤N∧wr.heap.size≤gc) (fun key=>?main) ?key
 case main=>
  refine aR ?_ ?_
  ·
   refine ja ?_;refine ak ?_;refine ja ?_;generalize hV:World.drew (World.alloc _ _)=V;have hC:Ext wr V∧ag V wr.heap.size 76 #[.int .i64 0,.int .i64 0,.slice none 0 0,.slice none 0 0]∧ag V (wr.heap.size+1) 76 #[.int .i64 0,.int .i64 0,.slice none 0 0,.slice none 0 0]∧wr.heap.size≠wr.heap.size+1∧wr.heap.size≤wr.heap.size∧wr.heap.size≤wr.heap.size+1:=by
    exact wi
   clear hV;obtain⟨cm,bZ,cz,cj,cT,cC⟩:=hC;generalize an:wr.heap.size+1=g2 at cz cj cC ⊢;generalize cg:wr.heap.size=b4 at bZ cj ⊢;exact key b4 g2 V ⟨cm,bZ,cz,cj,ad,ad⟩
  ·
   refine ja ?_;refine ak ?_;refine ja ?_;generalize hV:World.drew (World.alloc _ _)=V;have hC:Ext wr V∧ag V wr.heap.size 76 #[.int .i64 0,.int .i64 0,.slice none 0 0,.slice none 0 0]∧ag V (wr.heap.size+1) 76 #[.int .i64 0,.int .i64 0,.slice none 0 0,.slice none 0 0]∧wr.heap.size+1≠wr.heap.size∧wr.heap.size≤wr.heap.size∧wr.heap.size≤wr.heap.size+1:=by
    exact wi
   clear hV;obtain⟨cm,bZ,cz,cj,cT,cC⟩:=hC;generalize an:wr.heap.size+1=g2 at cz cj cC ⊢;generalize cg:wr.heap.size=b4 at bZ cj ⊢;exact key g2 b4 V ⟨cm,cz,bZ,cj,ad,ad⟩
 intro N gc V ⟨S,aL,aF,a2,a1,aM⟩;obtain⟨e0,bl,a5⟩:=aL.two;obtain⟨fn,bK,dr⟩:=aF.two;have aw:=dz S aL aF a2 a1 aM;clear S aL aF a0 al af a7 am aE c0 c1 c2 c3 a6 ca aP cx;refine ak ?_;refine az rfl (fun K hK=>?_) rfl;go_simp;refine hK _ _ (((GN.setCell (.inl (show ¬N<ws from by have:=U.o;omega)) _).setCell (.inl (show ¬N<ws from by have:=U.o;omega)) _).setCell (.inl (show ¬N<ws from by have:=U.o;omega)) _ |>.setCell (.inl (show ¬N<ws from by have:=U.o;omega)) _) ?_;clear hK K
 try simp only[PU]
 refine Ej (fun X=>Fr (fun b=>¬b<wr.heap.size) wr X∧ag X N 76 #[.int .i64 f.proc,.int .i64 f.pc,.slice IA x ic,.slice bj y lc]∧ag X gc 76 #[.int .i64 0,.int .i64 0,.slice none 0 0,.slice none 0 0]) ?_ (fun X ah=>?_)
 ·have ac:=la 0 [.int .i64 f.proc,.int .i64 f.pc,.slice IA x ic,.slice bj y lc] aw.2.1 rfl;refine⟨Fr.trans (aw.1.mono fun _ h=>h.elim) (ac.2.mono fun b O=>by have:=aw.2.2.2.2.1;omega),ac.1,aw.2.2.1.on ac.2 (Ne.symm a2)⟩
 have aU:=ae ah;clear e0 bl a5 fn bK dr;obtain⟨fn,bK,dr⟩:=ah.2.2.two;clear ah;exact gy
 ):p:=h
theorem fN{p:Prop}(h:p:=by
 have bD:ag W w.heap.size 80 #[.slice A n c]:=bg▸(GO).alloc _;have bL:ag W (w.heap.size+1) 80 #[.slice B m aG]:=bg▸ag.bR _ _ _ (by simp);have aj:=cA av bD bL (a8.1.on (Fr.ext av)) (a8.2.on (Fr.ext av));obtain⟨a0,al,af⟩:=bD.two;obtain⟨a7,am,aE⟩:=bL.two;clear bg av bD bL a8;by_cases I:n=m
 case neg=>
  have co:((n:Int) != (m:Int))=true:=by simp;omega
  have ax:=ae I;clear I;go_wp2_with (fail);go_ret;exact⟨false,rfl,⟨fun h=>(by cases h),fun h=>absurd (by rw[←bB.1,←bB.2.1,h]) ax.o⟩,aj.1⟩
 subst I;have co:((n:Int) != (n:Int))=false:=by simp
 clear a0 al af a7 am aE;obtain⟨a0,al,af⟩:=aj.2.1.two;obtain⟨a7,am,aE⟩:=aj.2.2.1.two;go_wp2_with (fail);clear a0 al af a7 am aE;go_loopw [5] (fun cp wr=>∃i:Nat,cp=.int .i64 i∧i≤n∧Ext W wr∧∀j,j<i→l[j]?=k[j]?) (fun cp _=>n - (intOf cp).toNat)
 case atStart=>exact⟨0,rfl,ad,GN,fun j ba=>ad⟩
 case round=>
  obtain⟨i,rfl,aJ,av,L⟩:=hrel;have bh:=ai av L;obtain⟨a0,al,af⟩:=(aj.2.1.al av).two;obtain⟨a7,am,aE⟩:=(aj.2.2.1.al av).two;by_cases ao:i<n
  ·obtain⟨bY,cI,f,IA,x,ic,bj,y,lc,rfl,ci,ay,c0,c1,c2,c3,Z,aM,t,b2⟩:=(aj.2.2.2.1.on (Fr.ext av)).n3 ao;obtain⟨b1,go,g,cZ,z,cN,KA,v,kc,rfl,cl,T,a6,ca,aP,cx,bc,aX,ab,cc⟩:=(aj.2.2.2.2.on (Fr.ext av)).n3 ao;exact xC
  ·obtain rfl:i=n:=ad;clear av L;go_wp2_with (fail);go_ret;refine⟨true,rfl,⟨fun _=>?_,fun _=>rfl⟩,aj.1.trans bh.1⟩;apply List.ext_getElem?
   intro j;exact x7
 ):p:=h
theorem sy{p:Prop}(h:p:=by
 go_enter func32,ntmps32;exact fM
 ):p:=h
end zt
open zt in
theorem rJ(A B:GR)(n c m aG:Nat)(l k:List aq)(w:World)(hl:Sl w (au w) A n (l.map fh))(ap:Sl w (au w) B m (k.map fh))(hn:n≤1000000)(H:∀f∈l,f.ints.length≤100000∧f.av.length≤100000) :
  Calls prog 32 #[.agg #[.slice A n c],.agg #[.slice B m aG]] w (hf w (l=k)):=by
 exact sx
theorem Bo{s t:an}:s=t↔s.fault=t.fault∧s.globals=t.globals∧s.table=t.table∧s.threads=t.threads:=by
 cases s;cases t
 simp only[an.mk.injEq];constructor
 ·rintro⟨ac,J,aS,bo⟩;exact⟨bo,ac,J,aS⟩
 ·rintro⟨ac,J,aS,bo⟩;exact⟨J,aS,bo,ac⟩
namespace zu
theorem fN{p:Prop}(h:p:=by
 have bD:ag W w.heap.size 40 #[.slice GA gn gc,.slice TA tn tc,.slice HA hn hc,.int .i64 s.fault]:=bg▸(GO).alloc _;have bL:ag W (w.heap.size+1) 40 #[.slice n l k,.slice y v m,.slice a4 hm hd,.int .i64 Q.fault]:=bg▸ag.bR _ _ _ (by simp);have aj:=cA av bD bL (a8.1.on av) (a8.2.1.on av);obtain⟨a0,al,af⟩:=bD.two;obtain⟨a7,am,aE⟩:=bL.two;clear bg av bD bL;by_cases ac:s.fault=Q.fault
 case neg=>
  have bb:(s.fault != Q.fault)=true:=by simpa using ac
  have u:=ae ac;clear ac;go_wp2_with (fail);go_ret;exact⟨false,rfl,⟨fun h=>(by cases h),fun h=>absurd (by rw[h]) u.o⟩,aj.1⟩
 have bb:(s.fault != Q.fault)=false:=by simpa using ac
 have H1:=ae ac;clear ac;go_wp2_with (fail);refine(gX GA n gn gc l k s.globals Q.globals W aj.2.2.2.1.at_.g aj.2.2.2.2.at_.g ad).mono ?_;rintro r aQ ⟨rfl,bt⟩;have aW:=ae (show Ext W aQ from Fr.of bt);clear bt a0 al af a7 am aE;obtain⟨a0,al,af⟩:=(aj.2.1.al aW.o).two;obtain⟨a7,am,aE⟩:=(aj.2.2.1.al aW.o).two
 cases J:decide (s.globals=Q.globals) with
 | false=>
  have u:=ae (of_decide_eq_false J);clear J;go_wp2_with (fail);go_ret
  exact⟨false,rfl,⟨fun h=>(by cases h),fun h=>absurd (by rw[h]) u.o⟩,aj.1.trans aW.o⟩
 | true=>
 have bk:=ae (of_decide_eq_true J);clear J;go_wp2_with (fail);refine(Bc TA y tn tc v m s.table Q.table aQ (aj.2.2.2.1.on aW.o).at_.t.holds (aj.2.2.2.2.on aW.o).at_.t.holds ad).mono ?_;rintro r bJ ⟨rfl,bz⟩;have b6:=ae (show Ext W bJ from aW.trans (Fr.of bz));clear bz a0 al af a7 am aE aW;obtain⟨a0,al,af⟩:=(aj.2.1.al b6.o).two;obtain⟨a7,am,aE⟩:=(aj.2.2.1.al b6.o).two
 cases aS:decide (s.table=Q.table) with
 | false=>
  have u:=ae (of_decide_eq_false aS);clear aS;go_wp2_with (fail);go_ret
  exact⟨false,rfl,⟨fun h=>(by cases h),fun h=>absurd (by rw[h]) u.o⟩,aj.1.trans b6.o⟩
 | true=>
 have bH:=ae (of_decide_eq_true aS);clear aS;by_cases I:hn=hm
 case neg=>
  have c6:((hn:Int) != (hm:Int))=true:=by simp;omega
  have u:=ae I;clear I;go_wp2_with (fail);go_ret;exact⟨false,rfl,⟨fun h=>(by cases h),fun h=>absurd (by rw[←a8.2.2.2.1,←a8.2.2.2.2,h]) u.o⟩,aj.1.trans b6.o⟩
 subst I;have c6:((hn:Int) != (hn:Int))=false:=by simp
 have dB:hn≤1000:=by have:=a8.2.2.1.h;have:=a8.2.2.2.1;omega
 go_wp2_with (fail);clear a0 al af a7 am aE;go_loopw [5] (fun cp wr=>∃i:Nat,cp=.int .i64 i∧i≤hn∧Ext W wr∧∀j,j<i→s.threads[j]?=Q.threads[j]?) (fun cp _=>hn - (intOf cp).toNat)
 case atStart=>exact⟨0,rfl,ad,b6.o,fun j ba=>ad⟩
 case round=>
  obtain⟨i,rfl,aJ,av,L⟩:=hrel;clear b6;have bh:=ai av L;obtain⟨a0,al,af⟩:=(aj.2.1.al av).two;obtain⟨a7,am,aE⟩:=(aj.2.2.1.al av).two;by_cases ao:i<hn
  ·obtain⟨bY,cI,f,FA,x,ic,rfl,ci,ay,c0,Z,g⟩:=(aj.2.2.2.1.on av).at_.h.mF ao;obtain⟨b1,go,gt,cZ,z,cN,rfl,cl,T,a6,bc,bl⟩:=(aj.2.2.2.2.on av).at_.h.mF ao;have cB:bY<wr.heap.size:=ci;have aI:b1<wr.heap.size:=cl;have H:=a8.2.2.1.f f (Ge ay);have bN:x=f.length:=by have:=g.1;simpa using this.symm
   have aN:x≤1000000:=ad;have bW:=cA ay T g bl H.2;clear av L ci cl ay T g bl Z bc H bN;go_upto_region 6 with(fail);refine eh (fun _=>False) [(0,3),(1,0),(2,3),(3,3),(4,0),(5,3),(6,0),(7,3),(8,3),(9,0),(10,2),(11,3)] ?_;refine pf ?_;refine ph ?_
   iterate 2 refine pf ?_
   refine ph ?_;refine pf ?_;refine ph ?_
   iterate 2 refine pf ?_
   refine ph ?_;refine ax rfl (fun K hK=>?_);go_simp;have bS:Ext wr wr.drew:=GN.drew;refine(rJ FA cZ x ic z cN f gt wr.drew (bW.2.2.1.on (Fr.ext bS)) (bW.2.2.2.1.on (Fr.ext bS)) aN bW.2.2.2.2).mono ?_;rintro r cy ⟨b,rfl,O,b3⟩;have cu:=ae (Fr.aE b3);have a4:=ae O;clear O b3 bS a0 al af a7 am aE c0 a6;refine hK _ _ ?_;clear hK K
   try simp only[PU]
   refine pf ?_;refine aD ?_;have b8:s=Q→f=gt:=fun h=>by have ac:=bW.1;have J:=bW.2.1;rw[h,J] at ac;injection ac with ac;exact ac.symm
   have aL:=ae b8;clear b8
   cases b with
   | false=>
    go_wp2_with (fail);go_ret
    exact⟨false,rfl,⟨fun h=>(by cases h),fun h=>absurd (a4.2 (aL.o h)) (by simp)⟩,(aj.1.trans bh.1).trans cu.o⟩
   | true=>
    go_wp2_with (fail);go_roundw
    case rel=>
     refine⟨i+1,by go_num,ad,bh.1.trans cu.o,fun j ba=>?_⟩;by_cases G:j=i
     ·rw[G,bW.1,bW.2.1,a4.1 rfl]
     ·exact bh.2 j ad
    case measure=>simp[intOf];omega
  ·obtain rfl:i=hn:=ad;clear av L;go_wp2_with (fail);go_ret;refine⟨true,rfl,⟨fun _=>Bo.2 ⟨H1.o,bk.o,bH.o,?_⟩,fun _=>rfl⟩,aj.1.trans bh.1⟩;apply List.ext_getElem?
   intro j;by_cases ba:j<i
   ·exact bh.2 j ba
   ·rw[List.getElem?_eq_none (aB a8.2.2.2.1),List.getElem?_eq_none (aB a8.2.2.2.2)]
 ):p:=h
end zu
open zu in
theorem Fc(s Q:an)(q o:SV)(w:World)(h:q.Ok w s)(F:o.Ok w Q)(H:Small s) :
  Calls prog 9 #[.agg (q.val s),.agg (o.val Q)] w (hf w (s=Q)):=by
 obtain⟨GA,gn,gc,TA,tn,tc,HA,hn,hc⟩:=q;obtain⟨n,l,k,y,v,m,a4,hm,hd⟩:=o;have bC:gn≤1000:=by have ac:=h.at_.g.1;have J:=H.g;rw[Gf] at ac;have aS:s.globals.length=gn:=ac;omega
 have bi:tn≤5000:=by have ac:=h.at_.t.1;have J:=H.t;rw[Gf] at ac;have aS:s.table.length=tn:=ac;omega
 have N:s.threads.length=hn:=by have ac:=h.at_.h.1;rw[Gf] at ac;exact ac
 have aC:Q.threads.length=hm:=by have ac:=F.at_.h.1;rw[Gf] at ac;exact ac
 have a8:=cA h F H N aC;clear h F H N aC;dsimp only[SV.val];go_enter func9,ntmps9;exact fM
def iv(e:TypeId)(z n:Nat)(xs:List Value)(w:World)(st:Nat)(v1 v2:Value)(F:List Nat):Prop:=
 (st=0∧v1=undef∧v2=undef∧F=[])∨(st=1∧v2=undef∧∃A,v1=.slice A 0 0∧Own w e z A 0 0 [] F)∨(st=2∧∃A c,v2=.slice A n c∧Own w e z A n c xs F)
theorem iv.ao{e:TypeId}{z n:Nat}{xs:List Value}{w ab:World}{st:Nat}{v1 v2:Value}{F:List Nat}(h:iv e z n xs w st v1 v2 F)(ap:∀b∈F,ab.heap[b]?=w.heap[b]?):iv e z n xs ab st v1 v2 F:=by
 rcases h with h|⟨ac,J,A,aS,bo⟩|⟨ac,A,c,J,aS⟩
 ·exact .inl h
 ·exact .inr (.inl ⟨ac,J,A,aS,bo.ao ap⟩)
 ·exact .inr (.inr ⟨ac,A,c,J,aS.ao ap⟩)
structure F0(W:World)(s:an)(gn tn hn:Nat)(hx:List Value)(w:World)(g t h:Nat)(b:Bool)(aN bb v10 v11 a c d:Value)(ak ar bS bX:List Nat):Prop where
 ext:Ext W w
 g:iv 3 1 gn (s.globals.map dV) w g bb v10 ak
 t:iv 87 2 tn (s.table.flatMap bZ) w t v11 a ar
 h:iv 80 1 hn hx w h c d bS
 o:(b=false∧aN=undef∧bX=[])∨(b=true∧∃G,aN=.pointer (some ⟨G,0,none⟩)∧bX=[G]∧ag w G 40 #[.slice none 0 0,.slice none 0 0,.slice none 0 0,.int .i64 0])
 nd:(ak++(ar++(bS++bX))).Nodup
 lo:∀k∈ak++(ar++(bS++bX)),W.heap.size≤k∧k<w.heap.size
section
variable {a:Act} {w:World} {K:Act→World→Prop} {Q:Exit→Act→World→Prop} {dst:Option Nat} {ty:TypeId} {p:String} {a2:Array Edge}
theorem Eu(h:K (a.put dst (.slice (some ⟨w.heap.size,0,none⟩) 0 0)) (w.alloc (.cells #[] 3))):Oper.wp prog ⟨dst,.buildSlice 22 0 #[],ty,p,a2,none⟩ a w K Q:=by
 go_simp;exact h
end
theorem iv.begin{z:Nat}{w:World}(h:iv e z n xs w 0 v1 v2 F)(hw:w.alloc (.cells #[] e)=ab):F=[]∧v2=undef∧iv e z n xs ab 1 (.slice (some ⟨w.heap.size,0,none⟩) 0 0) v2 [w.heap.size]:=by
 rcases h with⟨_,_,J,aS⟩|⟨h,_⟩|⟨h,_⟩
 ·subst hw;exact⟨aS,J,.inr (.inl ⟨rfl,J,_,rfl,⟨World.ownsRow_made w #[] 0 (Gz _) (Gz _) (by simp),rfl⟩⟩)⟩
 ·cases h
 ·cases h
theorem iv.fill{P:Program}{t:TypeId}{z:Value}{size bytes:Nat}{w:World}(h:iv e size n xs w 1 v1 v2 F){o:Oper}{a:Act}{K:Act→World→Prop}{Q:Exit→Act→World→Prop}(bb:b0 P t e z size bytes)(s x:Operand)
  (bi:o.op=.call {callee:=.builtin .append,args:=#[s,x],argTypes:=#[t,t]}) (hs:a.eval s=v1) {A:GR} {c:Nat} (hx:a.eval x=.slice A n c) (aX:Src w size A n xs) (O:n*bytes≤140737488355328) (H:n≤140737488355328) (d:A=none→n=0)
  (hK:∀v ab U,iv e size n xs ab 2 v1 v U→Fr (fun k=>k∈F) w ab→U.Nodup→(∀k∈U,(k∈F∨w.heap.size≤k)∧k<ab.heap.size)→K (a.put o.dst v) ab):o.wp P a w K Q:=by
 rcases h with⟨h,_⟩|⟨_,_,B,bC,y⟩|⟨h,_⟩
 ·cases h
 ·rw[bC] at hs;refine je _ bb s x bi 0 _ 0 [] hs y.row A n c xs hx aX (by rw[Gv];exact O) ad (Gz _) d fun M ab bZ cz cj=>?_;simp only[Gv,GG] at bZ;obtain⟨az,aG,rfl,hc,_⟩:=bT bZ;refine hK _ ab (bB az n aG) (.inr (.inr ⟨rfl,az,aG,rfl,bZ,rfl⟩)) (GN.grown cz fun g aM=>.inl (by rw[y.eq];simp[aM])) (eX _ _ _) fun b O=>?_;have aN:(Value.slice az n aG).ownBlock=some b:=by simpa using O
  refine⟨?_,(bZ.lt b aN).2⟩;rcases cj with cj|cj
  ·rw[cj] at aN;exact .inl (by rw[y.eq];simp[aN])
  ·rw[cj] at aN;injection aN with aN;right;omega
 ·cases h
section
variable {ops:Array Oper} {Q:Exit→Act→World→Prop} {W:World} {s:an} {gn tn hn gc tc hc:Nat} {GA TA HA:GR} {hx:List Value} {ws:Nat} {aa:Value→Value→Value→Value→Value→Value→Value→Act}
 {p0 p3 dQ p7 p8 c d:String} {a0 a3 z a7 a8 a b:Array Edge} {e:TypeId}
theorem World.rO(w:World)(o:Obj):(w.alloc o).heap.size=w.heap.size+1:=by first|(simp;done)|(cases o<;>simp;done)|(unfold World.alloc;simp;done)|rfl
theorem F0.d9{w:World}{M:List Nat}(aw:Fr (fun k=>k∈M) w ab)(ao:∀k∈F,k<w.heap.size)(hd:∀k∈F,k∉M):∀k∈F,ab.heap[k]?=w.heap[k]?:=fun k ap=>aw.block k (ao k ap) (hd k ap)
end
def uP(a b:Nat):List Nat:=(bif a == 0 then [0] else bif a == 1 then [3] else bif a == 2 then [6] else bif a == 3 then [8] else [])++(bif b == 0 then [18] else bif b == 1 then [20] else bif b == 2 then [22] else [])
def fW:Nat→Nat→Nat→PT
 | 0,_,_=>.stop
 | n+1,a,b=>bif a == 4 && b == 3 then .free 23 (.pick [24] fun _=>.stop) else .pick (uP a b) fun i=>
   bif i == 0 then fW n 1 b else bif i == 3 then fW n 2 b else bif i == 6 then .free 7 (fW n 3 b) else bif i == 8 then fW n 4 b else bif i == 18 then .free 19 (fW n a 1) else bif i == 20 then .free 21 (fW n a 2) else fW n a 3
abbrev tm(W w:World)(E:List Nat):Nat→Prop:=fun k=>W.heap.size≤k∧k<w.heap.size∧k∉E
structure EJ(W:World)(gs:List Int)(gn m:Nat)(w:World)(a:Nat)(r v6 bp v10 v11:Value)(E:List Nat):Prop where
 g:(a=0∧E=[]∧iv 3 1 gn (gs.map dV) w 0 r v6 [])∨(a=1∧iv 3 1 gn (gs.map dV) w 1 r v6 E)∨(2≤a∧E=[]∧∃F,iv 3 1 gn (gs.map dV) w 2 r v6 F∧∀k∈F,W.heap.size≤k∧k<w.heap.size)
 o:3≤a→v10=.int .i64 (m:Int)
 t:4≤a→∃A,v11=.slice A m m∧Sl w (tm W w []) A m ((List.replicate m ⟨0,0⟩).map mQ)
 e:∀k∈E,W.heap.size≤k∧k<w.heap.size
structure Ew(W:World)(mi:Int)(L:Nat)(w:World)(b:Nat)(l m s y z:Value)(E:List Nat):Prop where
 i:1≤b→∃A,l=.slice A L L∧Sl w (tm W w E) A L ((List.replicate L 0).map D.i)∧m=.agg #[.int .i64 mi,.int .i64 0,.slice A L L,.slice none 0 0]
 f:2≤b→∃A,s=.slice A 1 1∧Sl w (tm W w E) A 1 ([(⟨mi,0,List.replicate L 0,[]⟩:aq)].map fh)∧y=.agg #[.slice A 1 1]
 h:3≤b→∃A,z=.slice A 1 1∧Sl w (tm W w E) A 1 ([[(⟨mi,0,List.replicate L 0,[]⟩:aq)]].map kD)
theorem EJ.ao{W:World}{gs:List Int}{gn m a:Nat}{w ab:World}{r v6 bp v10 v11:Value}{E:List Nat}(h:EJ W gs gn m w a r v6 bp v10 v11 E)(av:Ext w ab):EJ W gs gn m ab a r v6 bp v10 v11 E:=by
 have ap:∀k,k<w.heap.size→ab.heap[k]?=w.heap[k]?:=fun k ap=>av.block k ap fun h=>h;have hs:=av.size;refine⟨?_,h.o,fun aV=>?_,fun k ap=>⟨(h.e k ap).1,by have:=(h.e k ap).2;omega⟩⟩
 ·rcases h.g with⟨ac,J,aS⟩|⟨ac,J⟩|⟨ac,J,F,aS,bo⟩
  ·exact .inl ⟨ac,J,aS.ao fun k ap=>by simp at ap⟩
  ·exact .inr (.inl ⟨ac,J.ao fun b O=>ap b (h.e b O).2⟩)
  ·exact .inr (.inr ⟨ac,J,F,aS.ao fun b O=>ap b (bo b O).2,fun k ap=>⟨(bo k ap).1,by have:=(bo k ap).2;omega⟩⟩)
 ·obtain⟨A,ac,J⟩:=h.t aV;exact⟨A,ac,(J.ao fun b O=>ap b O.2.1).mono fun b O=>⟨O.1,by have:=O.2.1;omega,O.2.2⟩⟩
theorem Ew.ao{W:World}{mi:Int}{L b:Nat}{w ab:World}{l m s y z:Value}{E a:List Nat}(h:Ew W mi L w b l m s y z E)(hs:w.heap.size≤ab.heap.size)(ap:∀k,W.heap.size≤k→k<w.heap.size→k∉E→ab.heap[k]?=w.heap[k]?∧k∉a):Ew W mi L ab b l m s y z a:=by
 have bF:∀b,tm W w E b→ab.heap[b]?=w.heap[b]?:=fun b O=>(ap b O.1 O.2.1 O.2.2).1;have hm:∀b,tm W w E b→tm W ab a b:=fun b O=>⟨O.1,by have:=O.2.1;omega,(ap b O.1 O.2.1 O.2.2).2⟩
 refine⟨fun O=>?_,fun O=>?_,fun O=>?_⟩
 ·obtain⟨A,ac,J,aS⟩:=h.i O;exact⟨A,ac,(J.ao bF).mono hm,aS⟩
 ·obtain⟨A,ac,J,aS⟩:=h.f O;exact⟨A,ac,(J.ao bF).mono hm,aS⟩
 ·obtain⟨A,ac,J⟩:=h.h O;exact⟨A,ac,(J.ao bF).mono hm⟩
theorem Ce{ops:Array Oper}{Q:Exit→Act→World→Prop}{W:World}{gs:List Int}{gn gc mn mc L ws:Nat}{GA MA:GR}{mi:Int}{X:List bF}{bD Z ay aP aQ ai aj ak al an ao ar aC:Value}{a0 a3 a6 a7 a8 a18 a19 a20 a21 a22:Array Edge}{p0 p3 p6 p7 p8 p18 p19 p20 p21 p22:String}
  (bR:Sl W (au W) GA gn (gs.map D.i)) (bC:gn≤100000) (a5:cG (EF hi) 3 W W.heap.size MA mn X) (ah:oQ X) (ca:L≤100000) (b9:ws≤W.heap.size)
  (o0:ops[0]?=some ⟨some 3,.buildSlice 22 0 #[],22,p0,a0,none⟩)
  (br:ops[3]?=some ⟨some 6,.call {callee:=.builtin .append,args:=#[.tmp 3,.tmp 5],argTypes:=#[22,22]},22,p3,a3,none⟩)
  (aD:ops[6]?=some ⟨some 9,.call {callee:=.value (.func 33),args:=#[.tmp 8],argTypes:=#[24]},22,p6,a6,none⟩)
  (aL:ops[7]?=some ⟨some 10,.call {callee:=.builtin .len,args:=#[.tmp 9],argTypes:=#[22]},3,p7,a7,none⟩)
  (aO:ops[8]?=some ⟨some 11,.makeSlice 37 (.tmp 10) (.tmp 10),37,p8,a8,none⟩)
  (aq:ops[18]?=some ⟨some 21,.makeSlice 22 (.tmp 20) (.tmp 20),22,p18,a18,none⟩)
  (aw:ops[19]?=some ⟨some 22,.build 76 #[(0,.tmp 13),(2,.tmp 21)],76,p19,a19,none⟩)
  (ax:ops[20]?=some ⟨some 23,.buildSlice 78 1 #[(0,.tmp 22)],78,p20,a20,none⟩)
  (aA:ops[21]?=some ⟨some 24,.build 80 #[(0,.tmp 23)],80,p21,a21,none⟩)
  (aB:ops[22]?=some ⟨some 25,.buildSlice 38 1 #[(0,.tmp 24)],38,p22,a22,none⟩)
  (H:∀r v6 bp v10 v11 l m s y z E w,Ext W w→EJ W gs gn (own X).length w 4 r v6 bp v10 v11 E→Ew W mi L w 3 l m s y z E→cN prog ops Q (Fr (fun k=>¬k<ws)) [24] (.free 23 (.pick [24] fun _=>.stop)) ⟨#[bD,Z,ay,r,aP,.slice GA gn gc,v6,aQ,.slice MA mn mc,bp,v10,v11,ai,.int .i64 mi,aj,ak,al,an,ao,ar,.int .i64 (L:Int),l,m,s,y,z,aC],[]⟩ w) :
  ∀(n a b:Nat),a≤4→b≤3→8≤n+a+b→∀r v6 bp v10 v11 l m s y z E w,Ext W w→EJ W gs gn (own X).length w a r v6 bp v10 v11 E→Ew W mi L w b l m s y z E→
   cN prog ops Q (Fr (fun k=>¬k<ws)) [24] (fW n a b) ⟨#[bD,Z,ay,r,aP,.slice GA gn gc,v6,aQ,.slice MA mn mc,bp,v10,v11,ai,.int .i64 mi,aj,ak,al,an,ao,ar,.int .i64 (L:Int),l,m,s,y,z,aC],[]⟩ w:=by
 intro n
 induction n with
 | zero=>intro a b aV O hn;omega
 | succ n aa=>
  intro a b aV O hn r v6 bp v10 v11 l m s y z E w av bb aT;unfold fW
  cases a9:(a == 4 && b == 3) with
  | true=>
   simp only[Gn,beq_iff_eq] at a9;obtain⟨rfl,rfl⟩:=a9
   exact H _ _ _ _ _ _ _ _ _ _ _ _ av bb aT
  | false=>
  have af:=av.size;have S:∀o:Obj,Fr (fun k=>¬k<ws) w (w.alloc o):=fun o=>GN.alloc o;have bN:∀o:Obj,(w.alloc o).heap.size=w.heap.size+1:=fun o=>World.rO w o;have T:∀o:Obj,Ext W (w.alloc o):=fun o=>av.alloc o;have am:∀o:Obj,Ext w (w.alloc o):=fun o=>GN.alloc o;have bk:∀o:Obj,Ew W mi L (w.alloc o) b l m s y z E:=fun o=>aT.ao (by rw[bN];omega) fun k _ ap hn=>⟨Below.heap_alloc w o k ap,hn⟩
  intro i aJ;simp only[uP,Gk] at aJ;rcases aJ with aJ|aJ
  ·have cr:a=0∨a=1∨a=2∨a=3∨a=4:=ad;rcases cr with rfl|rfl|rfl|rfl|rfl
   ·
    have C:i=0:=by simpa using aJ
    subst C;obtain⟨t,aX⟩:E=[]∧iv 3 1 gn (gs.map dV) w 0 r v6 []:=by
     rcases bb.g with⟨_,J,aS⟩|⟨ac,_⟩|⟨ac,_⟩
     ·exact⟨J,aS⟩
     ·omega
     ·omega
    subst t;obtain⟨_,_,cR⟩:=aX.begin rfl;refine⟨_,o0,fun K hK=>?_⟩;rw[if_pos (by rfl)];refine Eu (hK _ _ (fun _=>S _) ?_)
    try simp only[PU]
    refine aa 1 b ad O ad _ _ _ _ _ _ _ _ _ _ [w.heap.size] _ (T _) ⟨.inr (.inl ⟨rfl,cR⟩),fun h=>ad,fun h=>ad,fun k ap=>?_⟩ (aT.ao (by rw[bN];omega) fun k _ ap hn=>⟨Below.heap_alloc w _ k ap,fun h=>by have:=GH.1 h;omega⟩);rw[bN];have:=GH.1 ap;omega
   ·
    have C:i=3:=by simpa using aJ
    subst C;have aX:iv 3 1 gn (gs.map dV) w 1 r v6 E:=by
     rcases bb.g with⟨ac,_⟩|⟨_,aS⟩|⟨ac,_⟩
     ·omega
     ·exact aS
     ·omega
    refine⟨_,br,fun K hK=>?_⟩;rw[if_pos (by rfl)];refine iv.fill aX dj (.tmp 3) (.tmp 5) rfl rfl rfl (by have:=Src.ru (bR.on (Fr.ext av)).ints (n8 _) (rA _) ad;rwa [As] at this) ad ad (fun h=>by subst h;exact bR.none_) (fun v ab U cR bL cl d=>?_);have b0:=bL.size;have Y:∀k∈E,W.heap.size≤k:=fun k ap=>(bb.e k ap).1;have aK:Ext W ab:=Fr.low (M:=fun k=>k∈E) (Fr.trans (Fr.mono av fun _ h=>h.elim) bL) Y;refine hK _ _ (fun _=>bL.mono fun k ap=>by have:=Y k ap;omega) ?_
    try simp only[PU]
    refine aa 2 b ad O ad _ _ _ _ _ _ _ _ _ _ [] _ aK ⟨.inr (.inr ⟨ad,rfl,U,cR,fun k ap=>?_⟩),fun h=>ad,fun h=>ad,fun k ap=>by simp at ap⟩ (aT.ao b0 fun k _ ap hn=>⟨bL.block k ap hn,by simp⟩);have ac:=d k ap;have:W.heap.size≤k:=by rcases ac.1 with J|J;exact Y k J;omega
    omega
   ·
    have C:i=6:=by simpa using aJ
    subst C;refine⟨_,aD,fun K hK=>?_⟩;rw[if_pos (by rfl)];go_simp;refine(tq MA mn mc X w (a5.cZ (Fr.ext av) (Fr.ext av).size) ah).mono ?_;rintro e ab ⟨az,aG,rfl,hc,hs,aN⟩;have u:Ext w ab:=Fr.of aN;refine hK _ _ (fun _=>Fr.mono u fun _ h=>h.elim) ?_
    try simp only
    show cN _ _ _ _ _ (.free 7 (fW n 3 b)) _ _
    refine kf (v:=?_) aL (by rfl) (fun V=>?_) ?_;rotate_left
    ·(go_simp<;>with_reducible rfl)
    try simp only[PU]
    have c:=bb.ao u;have aM:2≤2∧E=[]∧∃F,iv 3 1 gn (gs.map dV) ab 2 r v6 F∧∀k∈F,W.heap.size≤k∧k<ab.heap.size:=by
     rcases c.g with⟨ac,_⟩|⟨ac,_⟩|aS
     ·omega
     ·omega
     ·exact aS
    exact aa 3 b ad O ad _ _ _ _ _ _ _ _ _ _ E _ (av.trans u) ⟨.inr (.inr ⟨ad,aM.2⟩),fun _=>rfl,fun h=>ad,c.e⟩ (aT.ao u.size fun k _ ap hn=>⟨u.block k ap fun h=>h,hn⟩)
   ·
    have C:i=8:=by simpa using aJ
    subst C;have q:=bb.o ad;subst q;have hm:=dy ah;have dW:=fun W=>run_mk (P:=prog) p1 .i64 .i64 (own X).length ad ad W;have I:=tp (e:=87) (f:=bZ) (x:=⟨0,0⟩) (zc:=#[.int .i64 0,.int .i64 0]) (sz:=2) rfl rfl ad (own X).length ad (w:=w) (base:=w.heap.size) (Gb _);refine⟨_,aO,fun K hK=>?_⟩;rw[if_pos (by rfl)];have cO:=ae I;clear I;go_simp;refine hK _ _ (fun _=>S _) ?_
    try simp only
    have c:=bb.ao (am (.cells (madeCells #[.int .i64 0,.int .i64 0] ((own X).length*2)) 87));have aM:2≤3∧E=[]∧∃F,iv 3 1 gn (gs.map dV) (w.alloc (.cells (madeCells #[.int .i64 0,.int .i64 0] ((own X).length*2)) 87)) 2 r v6 F∧∀k∈F,W.heap.size≤k∧k<(w.alloc (.cells (madeCells #[.int .i64 0,.int .i64 0] ((own X).length*2)) 87)).heap.size:=by
     rcases c.g with⟨ac,_⟩|⟨ac,_⟩|aS
     ·omega
     ·omega
     ·exact aS
    refine aa 4 b ad O ad _ _ _ _ _ _ _ _ _ _ E _ (T _) ⟨.inr (.inr ⟨ad,aM.2⟩),fun _=>rfl,fun _=>⟨_,rfl,?_⟩,c.e⟩ (bk _);exact Sl.om cO.o (fZ _) (by simp) fun g _ ac J=>⟨ad,J,by simp⟩
   ·simp at aJ
  ·have cr:b=0∨b=1∨b=2∨b=3:=ad;rcases cr with rfl|rfl|rfl|rfl
   ·
    have C:i=18:=by simpa using aJ
    subst C;have dW:=fun W=>run_mk (P:=prog) dj .i64 .i64 L ad ad W;have I:=tp (e:=3) (f:=dB) (x:=0) (zc:=#[.int .i64 0]) (sz:=1) rfl rfl ad L ad (w:=w) (base:=w.heap.size) (Gb _);rw[As,Nat.mul_one] at I;have cO:=ae I;clear I;refine⟨_,aq,fun K hK=>?_⟩;rw[if_pos (by rfl)];go_simp;refine hK _ _ (fun _=>S _) ?_
    try simp only
    show cN _ _ _ _ _ (.free 19 (fW n a 1)) _ _
    refine kf (v:=?_) aw (by rfl) (fun V=>?_) ?_;rotate_left
    ·(go_simp<;>with_reducible rfl)
    try simp only[PU]
    refine aa a 1 aV ad ad _ _ _ _ _ _ _ _ _ _ E _ (T _) (bb.ao (am _)) ⟨fun _=>⟨_,rfl,?_,rfl⟩,fun h=>ad,fun h=>ad⟩;exact Sl.om cO.o (d0 _) (by simp) fun g _ ac J=>⟨ad,J,fun h=>by have:=(bb.e g h).2;omega⟩
   ·
    have C:i=20:=by simpa using aJ
    subst C;obtain⟨A,aE,hs,aF⟩:=aT.i ad;subst aE aF;refine⟨_,ax,fun K hK=>?_⟩;rw[if_pos (by rfl)];go_simp;refine hK _ _ (fun _=>S _) ?_
    try simp only
    show cN _ _ _ _ _ (.free 21 (fW n a 2)) _ _
    refine kf (v:=?_) aA (by rfl) (fun V=>?_) ?_;rotate_left
    ·(go_simp<;>with_reducible rfl)
    try simp only[PU]
    have B:=bk (.cells #[.int .i64 mi,.int .i64 0,.slice A L L,.slice none 0 0] 76);obtain⟨A2,G,bK,_⟩:=B.i ad;injection G with G _ _;subst G;have R:=ag.new w 76 #[.int .i64 mi,.int .i64 0,.slice A L L,.slice none 0 0];refine aa a 2 aV ad ad _ _ _ _ _ _ _ _ _ _ E _ (T _) (bb.ao (am _)) ⟨fun _=>B.i ad,fun _=>⟨_,rfl,⟨rfl,fun _=>⟨w.heap.size,0,_,rfl,⟨af,by rw[bN];omega,fun h=>by have:=(bb.e _ h).2;omega⟩,D.bH.2 (k4.2 ⟨A,L,L,none,0,0,rfl,Gb _,Gb _,bK,Sl.bu _⟩),fun j v ba=>?_⟩⟩,rfl⟩,fun h=>ad⟩;rw[Gv,R.cell];simpa using ba
   ·
    have C:i=22:=by simpa using aJ
    subst C;obtain⟨A,aH,hs,aI⟩:=aT.f ad;subst aH aI;refine⟨_,aB,fun K hK=>?_⟩;rw[if_pos (by rfl)];go_simp;refine hK _ _ (fun _=>S _) ?_
    try simp only
    have B:=bk (.cells #[.slice A 1 1] 80);obtain⟨A2,N,bK,_⟩:=B.f ad;injection N with N _ _;subst N;have R:=ag.new w 80 #[.slice A 1 1];refine aa a 3 aV ad ad _ _ _ _ _ _ _ _ _ _ E _ (T _) (bb.ao (am _)) ⟨fun _=>B.i ad,fun _=>B.f ad,fun _=>⟨_,rfl,rfl,fun _=>⟨w.heap.size,0,_,rfl,⟨af,by rw[bN];omega,fun h=>by have:=(bb.e _ h).2;omega⟩,D.bH.2 (iA.2 ⟨A,1,1,rfl,Gb _,bK⟩),fun j v ba=>?_⟩⟩⟩;rw[Gv,R.cell];simpa using ba
   ·simp at aJ
namespace zP
theorem gz{p:Prop}(h:p:=by
 refine bU ?_;generalize ah:World.setCell _ _ _=Z;obtain⟨bm,a9,bn⟩:=cx (w:=w) [.slice cC gn c1,.slice A2 (own u.af).length (own u.af).length,.slice cl 1 1,.int .i64 0] (by rfl) g.2.2.2.2.1 g.2.2.2.2.2 ad ah;have bf:=ai a9 bn;clear ah a9 bn bx bd be;obtain⟨bx,bd,be⟩:=bm.two;clear bm;go_wp2_with (fail);refine GM (v:=.agg #[.slice cC gn c1,.slice A2 (own u.af).length (own u.af).length,.slice cl 1 1,.int .i64 0]) (by simp[results,Tryz.results10,go_sem,bx]) rfl ?_;have cG:=bf.2.size;have cc:u.globals.length=gn:=by have:=(aj.2.2).at_.g.1;rw[Gf] at this;exact this
 have i:∀b,W.heap.size≤b→b<V.heap.size→Z.heap[b]?=V.heap[b]?:=fun b ac J=>bf.2.block b J ad;have hm:∀b,W.heap.size≤b→b<V.heap.size→(False∨(w.heap.size≤b∧b<Z.heap.size)):=fun b ac J=>.inr ⟨ad,ad⟩;have a1:=g.1.ao (ab:=Z) fun b O=>i b (g.2.1 b O).1 (g.2.1 b O).2;rw[uO];have cF:c9 u u.main [] []=⟨u.main,0,List.replicate L 0,[]⟩:=by unfold c9;rw[cn.2.1];simp
 rw[cF];exact⟨⟨cC,gn,c1,A2,(own u.af).length,(own u.af).length,cl,1,1⟩,rfl,⟨⟨a1.sl (d0 _) (by rw[Gf];exact cc) fun b O=>hm b (g.2.1 b O).1 (g.2.1 b O).2,(g.2.2.1.ao fun b O=>i b O.1 O.2.1).mono fun b O=>hm b O.1 O.2.1,(g.2.2.2.1.ao fun b O=>i b O.1 O.2.1).mono fun b O=>hm b O.1 O.2.1⟩,a1.cap,Gb _,Gb _⟩,bf.1⟩
 ):p:=h
theorem fN{p:Prop}(h:p:=by
 have aT:ag W w.heap.size 30 #[.slice GA gn gc,.slice MA mn mc,.slice (some ⟨eN,gO,none⟩) pn pc,.int .i64 u.main]:=bg▸(GO).alloc _;have b6:ag W (w.heap.size+1) 40 #[.slice none 0 0,.slice none 0 0,.slice none 0 0,.int .i64 0]:=bg▸ag.bR _ _ _ (by simp);have aj:=aK av b6 (cg.on av);have cH:=av.size;have dx:=b6.lt;have bA:=(av.cell cn.2.2.1 fun h=>h).trans cn.2.2.2;have cd:eN<W.heap.size:=Gc cn.2.2.1 av.size;obtain⟨a0,al,af⟩:=aT.two;obtain⟨ws,b9⟩:∃ws,ws=W.heap.size:=⟨_,rfl⟩
 have ar:w.heap.size<ws:=ad;have dd:eN<ws:=ad;have U:=ae b9;clear bg av aT b6 b9;refine o2 (fun k=>¬k<ws) [24] (.free 1 (.held 2 (.free 4 (.held 5 (.free 9 (.held 10 (.free 11 (.held 12 (.free 13 (.held 14 (.free 15 (.free 16 (.held 17 (fW 8 0 0)))))))))))))) ?_;refine tf ?_;refine mE ?_;refine tf ?_;refine mE ?_;refine tf ?_;refine mE ?_;refine tf ?_;refine mE ?_;refine tf ?_;refine mE ?_
 iterate 2 refine tf ?_
 refine mE ?_;have aa:Ext W W.drew:=(Fr.refl _ W).drew;refine Ce (W:=W) (gs:=u.globals) (gn:=gn) (gc:=gc) (mn:=mn) (mc:=mc) (L:=L) (ws:=ws) (GA:=GA) (MA:=MA) (mi:=u.main) (X:=u.af) (p0:=?aM) (a0:=?aE) (p3:=?aN) (a3:=?aG) (p6:=?aP) (a6:=?aH) (p7:=?aQ) (a7:=?aI) (p8:=?aR) (a8:=?aJ) (p18:=?T9) (a18:=?x9) (p19:=?Y9) (a19:=?M9) (p20:=?am) (a20:=?N9) (p21:=?au) (a21:=?P9) (p22:=?ay) (a22:=?Q9) ?bR bC ?a5 ?ah cO ?b9 ?o0 ?br ?aD ?aL ?aO ?aq ?aw ?ax ?aA ?aB ?H 8 0 0 ad ad ad undef undef undef undef undef undef undef undef undef undef [] W.drew aa ?bN ?aU
 case bR=>exact aj.2.2.at_.g
 case a5=>exact aj.2.2.at_.m.ql
 case ah=>exact cn.1.ok.BB
 case b9=>have:=U.o;omega
 case o0=>rfl
 case br=>rfl
 case aD=>rfl
 case aL=>rfl
 case aO=>rfl
 case aq=>rfl
 case aw=>rfl
 case ax=>rfl
 case aA=>rfl
 case aB=>rfl
 case bN=>exact⟨.inl ⟨rfl,rfl,.inl ⟨rfl,rfl,rfl,rfl⟩⟩,fun h=>ad,fun h=>ad,fun k ap=>by simp at ap⟩
 case aU=>exact⟨fun h=>ad,fun h=>ad,fun h=>ad⟩
 case H=>
  intro r v6 bp v10 v11 l m s y z E V S bb aT;obtain⟨cC,c1,F,rfl,bl,ao⟩:∃A c F,v6=.slice A gn c∧Own V 3 1 A gn c (u.globals.map dV) F∧∀k∈F,W.heap.size≤k∧k<V.heap.size:=by
   rcases bb.g with⟨h,_⟩|⟨h,_⟩|⟨_,_,F,h,hF⟩
   ·omega
   ·omega
   ·rcases h with⟨h,_⟩|⟨h,_⟩|⟨_,A,c,ac,J⟩
    ·omega
    ·omega
    ·exact⟨A,c,F,ac,J,hF⟩
  obtain⟨A2,rfl,q⟩:=bb.t ad;obtain⟨cl,rfl,j⟩:=aT.h ad;have R:=aj.2.1.al S;have G:=aj.1.trans S;have cv:=S.size;have g:=dz bl ao q j R G;obtain⟨bx,bd,be⟩:=R.two;clear bl ao q j R G bb aT S a0 al af bA;refine tf ?_;exact gy
 ):p:=h
end zP
open zP in
theorem Fb(u:aF)(w:World)(p:UV)(hU:vV u)(hu:p.Ok w u) :
  Calls prog 10 #[.agg (p.val u)] w (CO (fun _=>False) w (iE u)):=by
 obtain⟨GA,gn,gc,MA,mn,mc,PA,pn,pc⟩:=p;obtain⟨dP,an,bs,bz,aC⟩:=hU.ok.main;have c3:=hU.ok.procs dP (Ge bs);have n:=c3.ints;have bC:gn≤100000:=by have ac:=hu.at_.g.1;have J:=hU.ok.mB;rw[Gf] at ac;have aS:u.globals.length=gn:=ac;omega
 have cd:=hu.at_.p.1;rw[Gf] at cd;simp only at cd;have bF:=(List.getElem?_eq_some_iff.1 bs).1;obtain⟨eN,gO,b7,aV,ct,bX,e,eL,cf,b8,b2,bu,bA,I,_,_⟩:=hu.at_.proc (k:=u.main.toNat) (by show u.main.toNat<pn;omega);simp only at e;subst e;rw[bs] at cf;injection cf with cf;subst cf;obtain⟨L,t⟩:=Gg (a:=dP.locals) ad;rw[t] at bA;have cO:L≤100000:=ad;have az:u.main<(pn:Int):=ad;have o:gd u u.main=L:=by unfold gd;rw[bs];simp[t]
 have cn:=bO hU o eL bA;have cg:=ae hu;clear hU bs bz aC c3 n hu cd bF b8 b2 bu bA I t o;dsimp only[UV.val];go_enter func10,ntmps10;exact fM
end Go.Proofs.YtjhgbdckgkppnaaGreat
