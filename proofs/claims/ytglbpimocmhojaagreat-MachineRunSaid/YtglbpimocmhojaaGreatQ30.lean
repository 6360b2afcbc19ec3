/- Part 30 of the proof. No condition of its own. -/
import Derived.Test.YtglbpimocmhojaaGreatQ29
namespace Go.Proofs.YtglbpimocmhojaaGreat
open Go.RowKit Go.Proofs.Tryz
set_option maxRecDepth 1000000
set_option maxHeartbeats 25600000
set_option linter.unusedVariables false
def gX(u:ay)(f:al):Prop:=0<=f.proc/\0<=f.pc/\∃p,u.procs[f.proc.toNat]?=some p/\f.pc<p.code.length/\(f.ints.length:Int)=p.locals/\(f.au.length:Int)=p.au/\∀k∈f.au,0<=k/\k<elems u.af
def s8(u:ay)(s:aj):Prop:=s.globals.length=u.globals.length/\1<=s.threads.length/\s.threads.length<=32/\0<=s.fault/\s.fault<=4/\gY u.af s.table s.threads.length=true/\∀t∈s.threads,∀f∈t,gX u f
def yS{α:Type}(w:World)(l:List α)(p:α->Prop)(e:Ending)(ab:World):Prop:=∃r:Int,e=.returned (.int .i64 r)/\(0<=r↔∃x∈l,p x)/\Ext w ab
theorem EO(x N:Int)(g:Nat)(w:World)(a2:g<w.heap.size)(hc:w.cell? ⟨g,0,none⟩=some (.int .i64 N)) :
  Calls prog 89 #[.int .i64 x,.pointer (some ⟨g,0,none⟩)] w (im w (x<0\/N<=x)):=by
 go_enter func89,ntmps89;by_cases h0:x<0
 .have q1:decide (x<0)=true:=decide_eq_true h0;have b4:=ae h0;clear h0;go_wp2_with(fail);go_ret;exact⟨true,rfl,⟨λ_=>.inl b4.o,λ_=>rfl⟩,Ll⟩
 .have q1:decide (x<0)=false:=decide_eq_false h0;have b4:=ae h0;clear h0;go_wp2_with(fail);go_ret;exact⟨decide (x>=N),rfl,⟨λh=>.inr (of_decide_eq_true h),λh=>decide_eq_true (aC b4.o)⟩,Ll⟩
theorem E7(A:Lp)(n c:Nat)(l:List Int)(N:Int)(g:Nat)(w:World)(hl:Sl w (av w) A n (l.map D.i))(hn:n<=140737488355328)(a2:g<w.heap.size)(hc:w.cell? ⟨g,0,none⟩=some (.int .i64 N)) :
  Calls prog 110 #[.slice A n c,.func (.func 89) #[] #[.pointer (some ⟨g,0,none⟩)]] w (yS w l (λx=>x<0\/N<=x)):=by
 have bH:l.length=n:=by have:=hl.1;simpa using this
 have b4:=ah bH hl;have bQ:=ah a2 hc;clear hc;clear bH hl;go_enter func110,ntmps110;go_wp2_with(fail);go_loopw [8] (λcu wr=>∃i:Nat,cu=.int .i64 i/\i<=n/\Ext w wr/\∀j x,j<i->l[j]?=some x->¬(λx=>x<0\/N<=x) x) (λcu _=>n - (intOf cu).toNat)
 case atStart=>exact⟨0,rfl,ad,Ll,λj x bi=>ad⟩
 case round=>
  obtain⟨i,rfl,an,aw,T⟩:=hrel;have bq:=ah aw T;by_cases ak:i<n
  .obtain⟨b,o,x,rfl,O,hx,c0⟩:=(b4.2.on (Fr.ext aw)).tN ak;have bU:=ae hx;have aV:b<wr.heap.size:=O;clear hx O;clear aw T;go_wp2_with(fail);refine(EO x N g wr (KE bQ.1 bq.1.size) ((bq.1.cell bQ.1 λh=>h).trans bQ.2)).mono ?_;exact CU
  .obtain rfl:i=n:=ad;exact CW
theorem hasInts(A:Lp)(n c:Nat)(l:List Int)(N:Int)(g:Nat)(w:World)(hl:Sl w (av w) A n (l.map D.i))(hn:n<=140737488355328)(a2:g<w.heap.size)(hc:w.cell? ⟨g,0,none⟩=some (.int .i64 N)) :
  Calls prog 88 #[.slice A n c,.func (.func 89) #[] #[.pointer (some ⟨g,0,none⟩)]] w (im w (∃x∈l,(λx=>x<0\/N<=x) x)):=by
 have cq:=ae (E7 A n c l N g w hl hn a2 hc);clear hl hc;go_enter func88,ntmps88;exact CX
theorem tT(u:ay)(f:al)(p:UV)(IA S:Lp)(i ic l lc:Nat)(w:World)(hu:p.Ok w u)(bk:u.procs.length<=100000)(bj:∀q∈u.procs,q.code.length<=100000)(ac:Sl w (av w) IA i (f.ints.map D.i))(au:Sl w (av w) S l (f.au.map D.i))(hl:l<=140737488355328) :
  Calls prog 49 #[.agg (p.val u),.agg #[.int .i64 f.proc,.int .i64 f.pc,.slice IA i ic,.slice S l lc],.int .i64 (elems u.af)] w (im w (gX u f)):=by
 obtain⟨GA,gn,gc,MA,mn,mc,PA,pn,pc⟩:=p;have cg:i=f.ints.length:=by have:=ac.1;simpa using this.symm
 have bI:l=f.au.length:=by have:=au.1;simpa using this.symm
 have gs:u.procs.length=pn:=by have:=hu.at_.p.1;rw[KH] at this;exact this
 have bo:=hP hu ac au cg bI gs bj;have dN:pn<=100000:=ad;clear hu ac au cg bI gs bj bk;have cw:Lr (gX u f↔0<=f.proc/\0<=f.pc/\∃p,u.procs[f.proc.toNat]?=some p/\f.pc<p.code.length/\(f.ints.length:Int)=p.locals/\(f.au.length:Int)=p.au/\∀k∈f.au,0<=k/\k<elems u.af):=ae Iff.rfl;generalize gX u f=V at *;generalize s:f.proc=be at *;generalize aB:f.pc=p3 at *;generalize j:elems u.af=N at *;clear s aB j;dsimp only[UV.val];go_enter func49,ntmps49;go_upto_region 1 with(fail);generalize ba:World.alloc _ _=W;have aw:=lF ba;have bD:=jo ba;have b6:=ir ba;have ce:=jq ba;have ag:=bL aw bD b6 ce;obtain⟨a0,ai,af⟩:=bD.two;obtain⟨a8,am,aF⟩:=b6.two;obtain⟨d0,aL,aM⟩:=ce.two;clear ba aw bD b6 ce;by_cases e1:be<0
 .have q1:decide (be<0)=true:=decide_eq_true e1;exact y6
 have q1:decide (be<0)=false:=decide_eq_false e1;by_cases e2:be>=(pn:Int)
 .have cI:decide (be>=(pn:Int))=true:=decide_eq_true e2;have n:=ah e1 e2;clear e1 e2;go_wp2_with(fail);go_ret;refine⟨false,rfl,⟨λh=>(by cases h),λh=>?_⟩,ag.1⟩;obtain⟨_,_,p,hp,_⟩:=cw.1 h;have:=(List.getElem?_eq_some_iff.1 hp).1;have:=n.o;have:=bo.2.2.2.2.2.1;omega
 have cI:decide (be>=(pn:Int))=false:=decide_eq_false e2;have m:0<=be:=ad;have o:be<(pn:Int):=ad;obtain⟨pb,eX,cq,bx,b2,bK,e,bP,cP,cr,cy,cd,bv,cJ,Z,T⟩:=(bo.1.on ag.1).at_.proc (k:=be.toNat) (by show be.toNat<pn;omega);simp only at e;subst e;have R:pb<W.heap.size:=bP;have bF:b2=cq.code.length:=by have:=T.1;simpa using this.symm
 have P:=bo.2.2.2.2.2.2 cq (KG cP);have Q:b2<=100000:=ad;have cn:=ah cP bF;clear e1 e2 bP cP Z T bF P;go_upto_region 4 with(fail);generalize hX:World.alloc _ _=X;have bp:=aX hX;have bz:=aK hX;have aQ:=ae (ag.1.trans bp);clear a0 ai af a8 am aF d0 aL aM cr cy cd bv cJ;obtain⟨a8,am,aF⟩:=(ag.2.2.1.ai bp).two;have br:=ag.2.2.2.ai bp;have z:=ae br;have L:=br.lt;obtain⟨bs,aV,bu⟩:=bz.two;clear hX bp bz br;have lU:V↔0<=p3/\p3<(b2:Int)/\(i:Int)=cq.locals/\(l:Int)=cq.au/\∀k∈f.au,0<=k/\k<N:=by
  rw[cw.o,cn.2,bo.2.2.2.1,bo.2.2.2.2.1];constructor
  .rintro⟨_,au,p,hp,aU,bE,cF,aY⟩;rw[cn.1] at hp;injection hp with hp;subst hp;exact⟨au,aU,bE,cF,aY⟩
  .rintro⟨au,aU,bE,cF,aY⟩;exact⟨m,au,cq,cn.1,aU,bE,cF,aY⟩
 have bT:=ae lU;clear lU;by_cases e3:p3>=0
 case neg=>
  have H:decide (p3>=0)=false:=decide_eq_false e3;have n:=ae e3;clear e3;go_wp2_with(fail);go_ret;exact⟨false,rfl,⟨λh=>(by cases h),λh=>absurd (bT.1 h).1 (aC n.o)⟩,aQ.o⟩
 have H:decide (p3>=0)=true:=decide_eq_true e3;have r:=ae e3;clear e3;by_cases b0:p3<(b2:Int)
 case neg=>
  have I:decide (p3<(b2:Int))=false:=decide_eq_false b0;have n:=ae b0;clear b0;go_wp2_with(fail);go_ret;exact⟨false,rfl,⟨λh=>(by cases h),λh=>absurd (bT.1 h).2.1 (aC n.o)⟩,aQ.o⟩
 have I:decide (p3<(b2:Int))=true:=decide_eq_true b0;have v:=ae b0;clear b0;by_cases ct:(i:Int)=cq.locals
 case neg=>
  have K:((i:Int) == cq.locals)=false:=by simpa using ct
  have n:=ae ct;clear ct;go_wp2_with(fail);go_ret;exact⟨false,rfl,⟨λh=>(by cases h),λh=>absurd (bT.1 h).2.2.1 (aC n.o)⟩,aQ.o⟩
 have K:((i:Int) == cq.locals)=true:=by simpa using ct
 have y:=ae ct;clear ct;by_cases a7:(l:Int)=cq.au
 case neg=>
  have M:((l:Int) == cq.au)=false:=by simpa using a7
  have n:=ae a7;clear a7;go_wp2_with(fail);go_ret;exact⟨false,rfl,⟨λh=>(by cases h),λh=>absurd (bT.1 h).2.2.2.1 (aC n.o)⟩,aQ.o⟩
 have M:((l:Int) == cq.au)=true:=by simpa using a7
 have J:=ae a7;clear a7;go_wp2_with(fail);refine(hasInts S l lc f.au N (w.heap.size+2) X (bo.2.2.1.on (Fr.ext aQ.o)) hl L (by rw[z.cell];rfl)).mono ?_;rintro e aT ⟨bb,rfl,U,a3⟩;have bJ:=ah U (aQ.trans a3);clear U a3 a8 am aF bs aV bu;go_wp2_with(fail);go_ret;refine⟨!bb,rfl,⟨λh=>bT.2 ⟨r.o,v.o,y.o,J.o,λk ap=>?_⟩,λh=>?_⟩,bJ.2⟩
 .have O:¬bb=true:=by cases bb<;>simp at h ⊢
  exact Classical.byContradiction λhn=>O (bJ.1.2 ⟨k,ap,show k<0\/N<=k by omega⟩)
 .have:=(bT.1 h).2.2.2.2
  cases O:bb with
  | false=>rfl
  | true=>
   obtain⟨x,hx,bi⟩:=bJ.1.1 O;have:=this x hx;omega
theorem C8(u:ay)(f:al)(p:UV)(o k:Nat)(IA S:Lp)(i ic l lc:Nat)(w:World)(hu:p.Ok w u)(bk:u.procs.length<=100000)(bj:∀q∈u.procs,q.code.length<=100000)(ac:Sl w (av w) IA i (f.ints.map D.i))(au:Sl w (av w) S l (f.au.map D.i))(hl:l<=140737488355328)
  (m:aq w o 30 (p.val u)) (I:aq w k 3 #[.int .i64 (elems u.af)]) :
  Calls prog 48 #[.agg #[.int .i64 f.proc,.int .i64 f.pc,.slice IA i ic,.slice S l lc],.pointer (some ⟨o,0,none⟩),.pointer (some ⟨k,0,none⟩)] w (im w (¬gX u f)):=by
 obtain⟨GA,gn,gc,MA,mn,mc,PA,pn,pc⟩:=p;have bo:=cK hu ac au m I;clear hu ac au m I;go_enter func48,ntmps48;go_upto_region 1 with(fail);generalize ba:World.alloc _ _=W;have aw:=aX ba;have b6:=aK ba;have ag:=ae aw;obtain⟨a0,ai,af⟩:=(bo.2.2.2.1.ai aw).two;obtain⟨a8,am,aF⟩:=b6.two;obtain⟨d0,aL,aM⟩:=(bo.2.2.2.2.ai aw).two;clear ba aw b6;go_wp2_with(fail);refine(tT u f ⟨GA,gn,gc,MA,mn,mc,PA,pn,pc⟩ IA S i ic l lc W (bo.1.on ag.o) bk bj (bo.2.1.on (Fr.ext ag.o)) (bo.2.2.1.on (Fr.ext ag.o)) hl).mono ?_;rintro e aT ⟨bb,rfl,U,a3⟩;have bJ:=ah U (ag.trans a3);clear U a3 a0 ai af a8 am aF d0 aL aM;go_wp2_with(fail);go_ret;refine⟨!bb,rfl,⟨λh bI=>?_,λh=>?_⟩,bJ.2⟩
 .rw[bJ.1.2 bI] at h;cases h
 .cases O:bb with
  | false=>rfl
  | true=>exact absurd (bJ.1.1 O) h
theorem yi(A:Lp)(n c:Nat)(l:List al)(u:ay)(p:UV)(o k:Nat)(w:World)(hl:Sl w (av w) A n (l.map er))(hn:n<=140737488355328)(hu:p.Ok w u)(bk:u.procs.length<=100000)(bj:∀q∈u.procs,q.code.length<=100000)(m:aq w o 30 (p.val u))(I:aq w k 3 #[.int .i64 (elems u.af)])(a1:∀f∈l,f.au.length<=140737488355328) :
  Calls prog 87 #[.slice A n c,.func (.func 48) #[] #[.pointer (some ⟨o,0,none⟩),.pointer (some ⟨k,0,none⟩)]] w (yS w l (λf=>¬gX u f)):=by
 have bH:l.length=n:=by have:=hl.1;simpa using this
 have b4:=ah bH hl;have bQ:=cS hu m I bk bj a1;clear hu m I bk bj a1;clear bH hl;go_enter func87,ntmps87;go_wp2_with(fail);go_loopw [8] (λcu wr=>∃i:Nat,cu=.int .i64 i/\i<=n/\Ext w wr/\∀j x,j<i->l[j]?=some x->¬(λf=>¬gX u f) x) (λcu _=>n - (intOf cu).toNat)
 case atStart=>exact⟨0,rfl,ad,Ll,λj x bi=>ad⟩
 case round=>
  obtain⟨i,rfl,an,aw,T⟩:=hrel;have bq:=ah aw T;by_cases ak:i<n
  .obtain⟨ch,c5,f,IA,x,ic,S,y,lc,rfl,cw,G,c0,c1,c2,c3,aN,a2,aR,cd⟩:=(b4.2.on (Fr.ext aw)).pM ak;have ar:y=f.au.length:=by have:=cd.1;simpa using this.symm
   have cQ:=aD aR cd (show y<=140737488355328 by rw[ar];exact bQ.2.2.2.2.2 f (KG G));have bU:=ae G;have aV:ch<wr.heap.size:=cw;clear G cw aR cd aN a2 ar;clear aw T;go_wp2_with(fail);refine(C8 u f p o k IA S x ic y lc wr (bQ.1.on bq.1) bQ.2.2.2.1 bQ.2.2.2.2.1 cQ.1 cQ.2.1 cQ.2.2 (bQ.2.1.ai bq.1) (bQ.2.2.1.ai bq.1)).mono ?_;exact CU
  .obtain rfl:i=n:=ad;exact CW
theorem yh(A:Lp)(n c:Nat)(l:List al)(u:ay)(p:UV)(o k:Nat)(w:World)(hl:Sl w (av w) A n (l.map er))(hn:n<=140737488355328)(hu:p.Ok w u)(bk:u.procs.length<=100000)(bj:∀q∈u.procs,q.code.length<=100000)(m:aq w o 30 (p.val u))(I:aq w k 3 #[.int .i64 (elems u.af)])(a1:∀f∈l,f.au.length<=140737488355328) :
  Calls prog 47 #[.slice A n c,.func (.func 48) #[] #[.pointer (some ⟨o,0,none⟩),.pointer (some ⟨k,0,none⟩)]] w (im w (∃x∈l,(λf=>¬gX u f) x)):=by
 have cq:=ae (yi A n c l u p o k w hl hn hu bk bj m I a1);clear hl hu bk bj m I a1;go_enter func47,ntmps47;exact CX
theorem x2(u:ay)(p:UV)(o k:Nat)(A:Lp)(n c:Nat)(l:List al)(w:World)(hl:Sl w (av w) A n (l.map er))(hn:n<=140737488355328)(hu:p.Ok w u)(bk:u.procs.length<=100000)(bj:∀q∈u.procs,q.code.length<=100000)(m:aq w o 30 (p.val u))(I:aq w k 3 #[.int .i64 (elems u.af)])(a1:∀f∈l,f.au.length<=140737488355328) :
  Calls prog 46 #[.agg #[.slice A n c],.pointer (some ⟨o,0,none⟩),.pointer (some ⟨k,0,none⟩)] w (im w (∃f∈l,¬gX u f)):=by
 have bo:=hP hl hu m I bk bj a1;clear hl hu m I bk bj a1;go_enter func46,ntmps46;go_upto_region 1 with(fail);generalize ba:World.alloc _ _=W;have aw:=aX ba;have b6:=aK ba;have ag:=ae aw;obtain⟨a8,am,aF⟩:=b6.two;clear ba aw b6;go_wp2_with(fail);refine(yh A n c l u p o k W (bo.1.on (Fr.ext ag.o)) hn (bo.2.1.on ag.o) bo.2.2.2.2.1 bo.2.2.2.2.2.1 (bo.2.2.1.ai ag.o) (bo.2.2.2.1.ai ag.o) bo.2.2.2.2.2.2).mono ?_;rintro e aT ⟨bb,rfl,U,a3⟩;have bJ:=ah U (ag.trans a3);clear U a3 a8 am aF;go_wp2_with(fail);go_ret;exact⟨bb,rfl,bJ.1,bJ.2⟩
theorem vN(A:Lp)(n c:Nat)(l:List (List al))(u:ay)(p:UV)(o k:Nat)(w:World)(hl:Sl w (av w) A n (l.map jP))(hn:n<=140737488355328)(hu:p.Ok w u)(bk:u.procs.length<=100000)(bj:∀q∈u.procs,q.code.length<=100000)(m:aq w o 30 (p.val u))(I:aq w k 3 #[.int .i64 (elems u.af)])(a1:∀t∈l,t.length<=140737488355328/\∀f∈t,f.au.length<=140737488355328) :
  Calls prog 86 #[.slice A n c,.func (.func 46) #[] #[.pointer (some ⟨o,0,none⟩),.pointer (some ⟨k,0,none⟩)]] w (yS w l (λt=>∃f∈t,¬gX u f)):=by
 have bH:l.length=n:=by have:=hl.1;simpa using this
 have b4:=ah bH hl;have bQ:=cS hu m I bk bj a1;clear hu m I bk bj a1;clear bH hl;go_enter func86,ntmps86;go_wp2_with(fail);go_loopw [8] (λcu wr=>∃i:Nat,cu=.int .i64 i/\i<=n/\Ext w wr/\∀j x,j<i->l[j]?=some x->¬(λt=>∃f∈t,¬gX u f) x) (λcu _=>n - (intOf cu).toNat)
 case atStart=>exact⟨0,rfl,ad,Ll,λj x bi=>ad⟩
 case round=>
  obtain⟨i,rfl,an,aw,T⟩:=hrel;have bq:=ah aw T;by_cases ak:i<n
  .obtain⟨ch,c5,f,FA,x,fc,rfl,cw,G,c0,aB,bW⟩:=(b4.2.on (Fr.ext aw)).lz ak;have cm:x=f.length:=by have:=bW.1;simpa using this.symm
   have a1:=bQ.2.2.2.2.2 f (KG G);have cQ:=aD bW (show x<=140737488355328 by rw[cm];exact a1.1) a1.2;have bU:=ae G;have aV:ch<wr.heap.size:=cw;clear G cw bW aB cm a1;clear aw T;go_wp2_with(fail);refine(x2 u p o k FA x fc f wr cQ.1 cQ.2.1 (bQ.1.on bq.1) bQ.2.2.2.1 bQ.2.2.2.2.1 (bQ.2.1.ai bq.1) (bQ.2.2.1.ai bq.1) cQ.2.2).mono ?_;exact CU
  .obtain rfl:i=n:=ad;exact CW
theorem vK(A:Lp)(n c:Nat)(l:List (List al))(u:ay)(p:UV)(o k:Nat)(w:World)(hl:Sl w (av w) A n (l.map jP))(hn:n<=140737488355328)(hu:p.Ok w u)(bk:u.procs.length<=100000)(bj:∀q∈u.procs,q.code.length<=100000)(m:aq w o 30 (p.val u))(I:aq w k 3 #[.int .i64 (elems u.af)])(a1:∀t∈l,t.length<=140737488355328/\∀f∈t,f.au.length<=140737488355328) :
  Calls prog 45 #[.slice A n c,.func (.func 46) #[] #[.pointer (some ⟨o,0,none⟩),.pointer (some ⟨k,0,none⟩)]] w (im w (∃x∈l,(λt=>∃f∈t,¬gX u f) x)):=by
 have cq:=ae (vN A n c l u p o k w hl hn hu bk bj m I a1);clear hl hu bk bj m I a1;go_enter func45,ntmps45;exact CX
namespace Cw
theorem hv{p:Prop}(h:p:=by
 have ck:gn=u.globals.length:=by have:=hu.at_.g.1;simpa using this.symm
 have cf:bV=s.globals.length:=by have:=hs.at_.g.1;simpa using this.symm
 have bG:hn=s.threads.length:=by have:=hs.at_.h.1;simpa using this.symm
 have cw:Lr (s8 u s↔bV=gn/\1<=hn/\hn<=32/\0<=s.fault/\s.fault<=4/\gY u.af s.table hn=true/\∀t∈s.threads,∀f∈t,gX u f):=ae (by rw[ck,cf,bG];exact Iff.rfl);have bo:=cS hX hu hs bk bj a1;clear hX hu hs bk bj a1 ck cf bG;simp only at qK;dsimp only[UV.val,SV.val];generalize s8 u s=o at *;generalize g:s.fault=be at *;clear g;go_enter func12,ntmps12;go_upto_region 1 with(fail);generalize ba:World.alloc _ _=W;have aw:=iN ba;have bD:=gC ba;have b6:=ga ba;have ag:=aD aw bD b6;obtain⟨a0,ai,af⟩:=bD.two;obtain⟨a8,am,aF⟩:=b6.two;clear ba aw bD b6;by_cases e1:¬bV=gn
 .have l:((bV:Int) != (gn:Int))=true:=by simp;omega
  exact y6
 have l:((bV:Int) != (gn:Int))=false:=by simp;omega
 have i:=ae e1;clear e1;by_cases e2:(hn:Int)<1
 .have m:decide ((hn:Int)<1)=true:=decide_eq_true e2;have n:=ae e2;clear e2;go_wp2_with(fail);go_ret;exact⟨false,rfl,⟨λh=>(by cases h),λh=>absurd (cw.1 h).2.1 (aC n.o)⟩,ag.1⟩
 have m:decide ((hn:Int)<1)=false:=decide_eq_false e2;have k:=ae e2;clear e2;by_cases e3:(hn:Int) > 32
 .have H:decide ((hn:Int) > 32)=true:=decide_eq_true e3;have n:=ae e3;clear e3;go_wp2_with(fail);go_ret;exact⟨false,rfl,⟨λh=>(by cases h),λh=>absurd (cw.1 h).2.2.1 (aC n.o)⟩,ag.1⟩
 have H:decide ((hn:Int) > 32)=false:=decide_eq_false e3;have r:=ae e3;clear e3;by_cases b0:be<0
 .have I:decide (be<0)=true:=decide_eq_true b0;have n:=ae b0;clear b0;go_wp2_with(fail);go_ret;exact⟨false,rfl,⟨λh=>(by cases h),λh=>absurd (cw.1 h).2.2.2.1 (aC n.o)⟩,ag.1⟩
 have I:decide (be<0)=false:=decide_eq_false b0;have v:=ae b0;clear b0;by_cases ct:be > 4
 .have K:decide (be > 4)=true:=decide_eq_true ct;have n:=ae ct;clear ct;go_wp2_with(fail);go_ret;exact⟨false,rfl,⟨λh=>(by cases h),λh=>absurd (cw.1 h).2.2.2.2.1 (aC n.o)⟩,ag.1⟩
 have K:decide (be > 4)=false:=decide_eq_false ct;have y:=ae ct;clear ct;go_wp2_with(fail);refine(yH MA TA mn mc tn tc u.af s.table hn W ((bo.2.1.on ag.1).at_.m.om) bo.1 ((bo.2.2.1.on ag.1).at_.t.holds)).mono ?_;rintro e aS ⟨rfl,bS⟩;have aN:Ext W aS:=Fr.of bS;have H1:=ah aN (ag.1.trans aN);clear a0 ai af a8 am aF bS;obtain⟨a0,ai,af⟩:=(ag.2.1.ai aN).two;obtain⟨a8,am,aF⟩:=(ag.2.2.ai aN).two;clear aN
 cases bI:gY u.af s.table hn with
 | false=>
  have cc:=ae bI;clear bI;go_wp2_with(fail);go_ret
  exact⟨false,rfl,⟨λh=>(by cases h),λh=>by have ac:=(cw.1 h).2.2.2.2.2.1;rw[cc.o] at ac;cases ac⟩,H1.2⟩
 | true=>
  have cc:=ae bI;clear bI;go_wp2_with(fail);refine(hZ MA mn mc u.af aS ((bo.2.1.on H1.2).at_.m.om) bo.1).mono ?_;rintro e aT ⟨rfl,bg⟩;have a3:Ext aS aT:=Fr.of bg;have bJ:=ah (H1.1.trans a3) (H1.2.trans a3);clear a0 ai af a8 am aF bg a3;go_upto_region 6 with(fail);generalize hX:World.alloc _ _=X;have bp:=aX hX;have bz:=aK hX;have aY:=bJ.1.trans bp;have aQ:=aD bz aY (ag.1.trans aY);obtain⟨a0,ai,af⟩:=(ag.2.1.ai aY).two;obtain⟨a8,am,aF⟩:=(ag.2.2.ai aY).two;obtain⟨bs,aV,bu⟩:=bz.two;clear hX bp bz aY;go_wp2_with(fail);refine(vK HA hn hc s.threads u ⟨GA,gn,gc,MA,mn,mc,PA,pn,pc⟩ w.heap.size aT.heap.size X (bo.2.2.1.on aQ.2.2).at_.h qK (bo.2.1.on aQ.2.2) bo.2.2.2.1 bo.2.2.2.2.1 (ag.2.1.ai aQ.2.1) aQ.1 bo.2.2.2.2.2).mono ?_;rintro e bX ⟨bb,rfl,U,a7⟩;have bW:=ah U (aQ.2.2.trans a7);clear U a7 a0 ai af a8 am aF bs aV bu;go_wp2_with(fail);go_ret;refine⟨!bb,rfl,⟨λh=>cw.2 ⟨by have:=i.o;omega,by have:=k.o;omega,by have:=r.o;omega,by have:=v.o;omega,by have:=y.o;omega,cc.o,λt ht f J=>?_⟩,λh=>?_⟩,bW.2⟩
  .have O:¬bb=true:=by cases bb<;>simp at h ⊢
   exact Classical.byContradiction λhn=>O (bW.1.2 ⟨t,ht,f,J,hn⟩)
  .have j:=(cw.1 h).2.2.2.2.2.2
   cases O:bb with
   | false=>rfl
   | true=>
    obtain⟨t,ht,f,J,hn⟩:=bW.1.1 O;exact absurd (j t ht f J) hn
 ):p:=h
end Cw
open Cw in
theorem DQ(u:ay)(s:aj)(p:UV)(q:SV)(w:World)(hX:m1 u.af)(hu:p.Ok w u)(hs:q.Ok w s)(bk:u.procs.length<=100000)(bj:∀q∈u.procs,q.code.length<=100000)(qK:q.hn<=140737488355328)(a1:∀t∈s.threads,t.length<=140737488355328/\∀f∈t,f.au.length<=140737488355328) :
  Calls prog 12 #[.agg (p.val u),.agg (q.val s)] w (im w (s8 u s)):=by
 exact hr
theorem rS{u:ay}{D:Nat}{s:aj}(hU:cZ u)(h:aV u D s):s8 u s:=by
 refine⟨h.dg,h.yO.1,h.yO.2,h.fault.1,h.fault.2,n9 h.table λk hd ap=>?_,λt ht f J=>?_⟩
 .have ag:=h.holds k hd ap;have bn:=ag.owner;have bw:=ag.depth;unfold eJ;rw[decide_eq_false (show ¬hd.owner<0 by omega),decide_eq_false (show ¬(s.threads.length:Int)<hd.owner by omega),decide_eq_false (show ¬hd.depth<0 by omega)];have aU:((hd.owner == 0) != (hd.depth == 0))=false:=by
   by_cases h0:hd.owner=0
   .rw[h0,ag.DD.1 h0];rfl
   .have ac:¬hd.depth=0:=λh=>h0 (ag.DD.2 h);rw[show (hd.owner == 0)=false by simpa using h0,show (hd.depth == 0)=false by simpa using ac];rfl
  rw[aU];by_cases cF:1<hd.depth
  .rw[ag.re cF];simp
  .rw[decide_eq_false cF];rfl
 .have hF:=(h.fm t ht).2 f J;obtain⟨p,ac,au,aU,bE⟩:=hF.ex;exact⟨hF.proc,hF.pc,p,ac,au,aU,bE,hF.au⟩
end Go.Proofs.YtglbpimocmhojaaGreat
