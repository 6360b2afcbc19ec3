/- Part 43 of the proof. No condition of its own. -/
import Derived.Test.YtnigabjngpnbiaaGreatQ42
namespace Go.Proofs.YtnigabjngpnbiaaGreat
open Go.RowKit Go.Proofs.Tryz
set_option maxRecDepth 1000000
set_option maxHeartbeats 25600000
set_option linter.unusedVariables false
def gp(u:ay)(f:ai):Prop:=0<=f.proc/\0<=f.pc/\∃p,u.procs[f.proc.toNat]?=some p/\f.pc<p.code.length/\(f.ints.length:Int)=p.locals/\(f.aq.length:Int)=p.aq/\∀k∈f.aq,0<=k/\k<elems u.af
def rO(u:ay)(s:ah):Prop:=s.globals.length=u.globals.length/\1<=s.threads.length/\s.threads.length<=32/\0<=s.fault/\s.fault<=4/\gq u.af s.table s.threads.length=true/\∀t∈s.threads,∀f∈t,gp u f
def xQ{α:Type}(w:World)(l:List α)(p:α->Prop)(e:Ending)(J:World):Prop:=∃r:Int,e=.returned (.int .i64 r)/\(0<=r↔∃x∈l,p x)/\Ext w J
theorem D6(x N:Int)(g:Nat)(w:World)(aS:g<w.heap.size)(hc:w.cell? ⟨g,0,none⟩=some (.int .i64 N)) :
  Calls prog 96 #[.int .i64 x,.pointer (some ⟨g,0,none⟩)] w (hy w (x<0\/N<=x)):=by
 go_enter func96,ntmps96;by_cases h0:x<0
 .have q1:decide (x<0)=true:=decide_eq_true h0;have bN:=ae h0;clear h0;go_wp2_with(fail);go_ret;exact⟨true,rfl,⟨λ_=>.inl bN.o,λ_=>rfl⟩,Kf⟩
 .have q1:decide (x<0)=false:=decide_eq_false h0;have bN:=ae h0;clear h0;go_wp2_with(fail);go_ret;exact⟨decide (x>=N),rfl,⟨λh=>.inr (of_decide_eq_true h),λh=>decide_eq_true (aC bN.o)⟩,Kf⟩
theorem En(A:Kj)(n c:Nat)(l:List Int)(N:Int)(g:Nat)(w:World)(hl:Sl w (ao w) A n (l.map D.i))(hn:n<=140737488355328)(aS:g<w.heap.size)(hc:w.cell? ⟨g,0,none⟩=some (.int .i64 N)) :
  Calls prog 125 #[.slice A n c,.func (.func 96) #[] #[.pointer (some ⟨g,0,none⟩)]] w (xQ w l (λx=>x<0\/N<=x)):=by
 have ck:l.length=n:=by have:=hl.1;simpa using this
 have bN:=ak ck hl;have bK:=ak aS hc;clear hc;clear ck hl;go_enter func125,ntmps125;go_wp2_with(fail);go_loopw [8] (λcr wr=>∃i:Nat,cr=.int .i64 i/\i<=n/\Ext w wr/\∀j x,j<i->l[j]?=some x->¬(λx=>x<0\/N<=x) x) (λcr _=>n - (intOf cr).toNat)
 case atStart=>exact⟨0,rfl,ad,Kf,λj x be=>ad⟩
 case round=>
  obtain⟨i,rfl,I,ar,aZ⟩:=hrel;have bd:=ak ar aZ;by_cases aq:i<n
  .obtain⟨b,o,x,rfl,O,hx,c0⟩:=(bN.2.on (Fr.ext ar)).C4 aq;have br:=ae hx;have aN:b<wr.heap.size:=O;clear hx O;clear ar aZ;go_wp2_with(fail);refine(D6 x N g wr (JJ bK.1 bd.1.size) ((bd.1.cell bK.1 λh=>h).trans bK.2)).mono ?_;exact Ch
  .obtain rfl:i=n:=ad;exact Cj
theorem hasInts(A:Kj)(n c:Nat)(l:List Int)(N:Int)(g:Nat)(w:World)(hl:Sl w (ao w) A n (l.map D.i))(hn:n<=140737488355328)(aS:g<w.heap.size)(hc:w.cell? ⟨g,0,none⟩=some (.int .i64 N)) :
  Calls prog 95 #[.slice A n c,.func (.func 96) #[] #[.pointer (some ⟨g,0,none⟩)]] w (hy w (∃x∈l,(λx=>x<0\/N<=x) x)):=by
 have b2:=ae (En A n c l N g w hl hn aS hc);clear hl hc;go_enter func95,ntmps95;exact Ck
theorem sx(u:ay)(f:ai)(p:UV)(IA bo:Kj)(i ic l lc:Nat)(w:World)(hu:p.Ok w u)(bB:u.procs.length<=100000)(a8:∀q∈u.procs,q.code.length<=100000)(ac:Sl w (ao w) IA i (f.ints.map D.i))(ap:Sl w (ao w) bo l (f.aq.map D.i))(hl:l<=140737488355328) :
  Calls prog 43 #[.agg (p.val u),.agg #[.int .i64 f.proc,.int .i64 f.pc,.slice IA i ic,.slice bo l lc],.int .i64 (elems u.af)] w (hy w (gp u f)):=by
 obtain⟨GA,gn,gc,MA,mn,mc,PA,pn,pc⟩:=p;have cC:i=f.ints.length:=by have:=ac.1;simpa using this.symm
 have aW:l=f.aq.length:=by have:=ap.1;simpa using this.symm
 have b4:u.procs.length=pn:=by have:=hu.at_.p.1;rw[JM] at this;exact this
 have bF:=jE hu ac ap cC aW b4 a8;have ch:pn<=100000:=ad;clear hu ac ap cC aW b4 a8 bB;have M:Kl (gp u f↔0<=f.proc/\0<=f.pc/\∃p,u.procs[f.proc.toNat]?=some p/\f.pc<p.code.length/\(f.ints.length:Int)=p.locals/\(f.aq.length:Int)=p.aq/\∀k∈f.aq,0<=k/\k<elems u.af):=ae Iff.rfl;generalize gp u f=aa at *;generalize T:f.proc=J at *;generalize ax:f.pc=p3 at *;generalize n:elems u.af=N at *;clear T ax n;dsimp only[UV.val];go_enter func43,ntmps43;go_upto_region 1 with(fail);generalize ba:World.alloc _ _=W;have ar:=l6 ba;have bH:=jV ba;have bJ:=iF ba;have b7:=jD ba;have ab:=b9 ar bH bJ b7;obtain⟨a0,al,af⟩:=bH.two;obtain⟨b0,am,aw⟩:=bJ.two;obtain⟨d0,aQ,aR⟩:=b7.two;clear ba ar bH bJ b7;by_cases e1:J<0
 .have q1:decide (J<0)=true:=decide_eq_true e1;exact x2
 have q1:decide (J<0)=false:=decide_eq_false e1;by_cases e2:J>=(pn:Int)
 .have cM:decide (J>=(pn:Int))=true:=decide_eq_true e2;have j:=ak e1 e2;clear e1 e2;go_wp2_with(fail);go_ret;refine⟨false,rfl,⟨λh=>(by cases h),λh=>?_⟩,ab.1⟩;obtain⟨_,_,p,hp,_⟩:=M.1 h;have:=(List.getElem?_eq_some_iff.1 hp).1;have:=j.o;have:=bF.2.2.2.2.2.1;omega
 have cM:decide (J>=(pn:Int))=false:=decide_eq_false e2;have m:0<=J:=ad;have o:J<(pn:Int):=ad;obtain⟨pb,db,cc,S,cN,bx,e,a3,aH,cD,b5,b3,bA,cO,Z,aB⟩:=(bF.1.on ab.1).at_.proc (k:=J.toNat) (by show J.toNat<pn;omega);simp only at e;subst e;have Y:pb<W.heap.size:=a3;have bG:cN=cc.code.length:=by have:=aB.1;simpa using this.symm
 have br:=bF.2.2.2.2.2.2 cc (JL aH);have V:cN<=100000:=ad;have cw:=ak aH bG;clear e1 e2 a3 aH Z aB bG br;go_upto_region 4 with(fail);generalize hX:World.alloc _ _=X;have bf:=aY hX;have a6:=aF hX;have aJ:=ae (ab.1.trans bf);clear a0 al af b0 am aw d0 aQ aR cD b5 b3 bA cO;obtain⟨b0,am,aw⟩:=(ab.2.2.1.aj bf).two;have bI:=ab.2.2.2.aj bf;have cX:=ae bI;have P:=bI.lt;obtain⟨bl,U,aE⟩:=a6.two;clear hX bf a6 bI;have jP:aa↔0<=p3/\p3<(cN:Int)/\(i:Int)=cc.locals/\(l:Int)=cc.aq/\∀k∈f.aq,0<=k/\k<N:=by
  rw[M.o,cw.2,bF.2.2.2.1,bF.2.2.2.2.1];constructor
  .rintro⟨_,ap,p,hp,aD,bt,cl,Q⟩;rw[cw.1] at hp;injection hp with hp;subst hp;exact⟨ap,aD,bt,cl,Q⟩
  .rintro⟨ap,aD,bt,cl,Q⟩;exact⟨m,ap,cc,cw.1,aD,bt,cl,Q⟩
 have b6:=ae jP;clear jP;by_cases e3:p3>=0
 case neg=>
  have I:decide (p3>=0)=false:=decide_eq_false e3;have j:=ae e3;clear e3;go_wp2_with(fail);go_ret;exact⟨false,rfl,⟨λh=>(by cases h),λh=>absurd (b6.1 h).1 (aC j.o)⟩,aJ.o⟩
 have I:decide (p3>=0)=true:=decide_eq_true e3;have r:=ae e3;clear e3;by_cases cn:p3<(cN:Int)
 case neg=>
  have K:decide (p3<(cN:Int))=false:=decide_eq_false cn;have j:=ae cn;clear cn;go_wp2_with(fail);go_ret;exact⟨false,rfl,⟨λh=>(by cases h),λh=>absurd (b6.1 h).2.1 (aC j.o)⟩,aJ.o⟩
 have K:decide (p3<(cN:Int))=true:=decide_eq_true cn;have y:=ae cn;clear cn;by_cases ci:(i:Int)=cc.locals
 case neg=>
  have L:((i:Int) == cc.locals)=false:=by simpa using ci
  have j:=ae ci;clear ci;go_wp2_with(fail);go_ret;exact⟨false,rfl,⟨λh=>(by cases h),λh=>absurd (b6.1 h).2.2.1 (aC j.o)⟩,aJ.o⟩
 have L:((i:Int) == cc.locals)=true:=by simpa using ci
 have z:=ae ci;clear ci;by_cases bL:(l:Int)=cc.aq
 case neg=>
  have R:((l:Int) == cc.aq)=false:=by simpa using bL
  have j:=ae bL;clear bL;go_wp2_with(fail);go_ret;exact⟨false,rfl,⟨λh=>(by cases h),λh=>absurd (b6.1 h).2.2.2.1 (aC j.o)⟩,aJ.o⟩
 have R:((l:Int) == cc.aq)=true:=by simpa using bL
 have s:=ae bL;clear bL;go_wp2_with(fail);refine(hasInts bo l lc f.aq N (w.heap.size+2) X (bF.2.2.1.on (Fr.ext aJ.o)) hl P (by rw[cX.cell];rfl)).mono ?_;rintro e aV ⟨bb,rfl,H,aO⟩;have bO:=ak H (aJ.trans aO);clear H aO b0 am aw bl U aE;go_wp2_with(fail);go_ret;refine⟨!bb,rfl,⟨λh=>b6.2 ⟨r.o,y.o,z.o,s.o,λk aj=>?_⟩,λh=>?_⟩,bO.2⟩
 .have O:¬bb=true:=by cases bb<;>simp at h ⊢
  exact Classical.byContradiction λhn=>O (bO.1.2 ⟨k,aj,show k<0\/N<=k by omega⟩)
 .have:=(b6.1 h).2.2.2.2
  cases O:bb with
  | false=>rfl
  | true=>
   obtain⟨x,hx,v⟩:=bO.1.1 O;have:=this x hx;omega
theorem Cy(u:ay)(f:ai)(p:UV)(o k:Nat)(IA bo:Kj)(i ic l lc:Nat)(w:World)(hu:p.Ok w u)(bB:u.procs.length<=100000)(a8:∀q∈u.procs,q.code.length<=100000)(ac:Sl w (ao w) IA i (f.ints.map D.i))(ap:Sl w (ao w) bo l (f.aq.map D.i))(hl:l<=140737488355328)
  (m:au w o 26 (p.val u)) (z:au w k 3 #[.int .i64 (elems u.af)]) :
  Calls prog 42 #[.agg #[.int .i64 f.proc,.int .i64 f.pc,.slice IA i ic,.slice bo l lc],.pointer (some ⟨o,0,none⟩),.pointer (some ⟨k,0,none⟩)] w (hy w (¬gp u f)):=by
 obtain⟨GA,gn,gc,MA,mn,mc,PA,pn,pc⟩:=p;have bF:=dT hu ac ap m z;clear hu ac ap m z;go_enter func42,ntmps42;go_upto_region 1 with(fail);generalize ba:World.alloc _ _=W;have ar:=aY ba;have bJ:=aF ba;have ab:=ae ar;obtain⟨a0,al,af⟩:=(bF.2.2.2.1.aj ar).two;obtain⟨b0,am,aw⟩:=bJ.two;obtain⟨d0,aQ,aR⟩:=(bF.2.2.2.2.aj ar).two;clear ba ar bJ;go_wp2_with(fail);refine(sx u f ⟨GA,gn,gc,MA,mn,mc,PA,pn,pc⟩ IA bo i ic l lc W (bF.1.on ab.o) bB a8 (bF.2.1.on (Fr.ext ab.o)) (bF.2.2.1.on (Fr.ext ab.o)) hl).mono ?_;rintro e aV ⟨bb,rfl,H,aO⟩;have bO:=ak H (ab.trans aO);clear H aO a0 al af b0 am aw d0 aQ aR;go_wp2_with(fail);go_ret;refine⟨!bb,rfl,⟨λh bD=>?_,λh=>?_⟩,bO.2⟩
 .rw[bO.1.2 bD] at h;cases h
 .cases O:bb with
  | false=>rfl
  | true=>exact absurd (bO.1.1 O) h
theorem xe(A:Kj)(n c:Nat)(l:List ai)(u:ay)(p:UV)(o k:Nat)(w:World)(hl:Sl w (ao w) A n (l.map dP))(hn:n<=140737488355328)(hu:p.Ok w u)(bB:u.procs.length<=100000)(a8:∀q∈u.procs,q.code.length<=100000)(m:au w o 26 (p.val u))(z:au w k 3 #[.int .i64 (elems u.af)])(T:∀f∈l,f.aq.length<=140737488355328) :
  Calls prog 94 #[.slice A n c,.func (.func 42) #[] #[.pointer (some ⟨o,0,none⟩),.pointer (some ⟨k,0,none⟩)]] w (xQ w l (λf=>¬gp u f)):=by
 have ck:l.length=n:=by have:=hl.1;simpa using this
 have bN:=ak ck hl;have bK:=dq hu m z bB a8 T;clear hu m z bB a8 T;clear ck hl;go_enter func94,ntmps94;go_wp2_with(fail);go_loopw [8] (λcr wr=>∃i:Nat,cr=.int .i64 i/\i<=n/\Ext w wr/\∀j x,j<i->l[j]?=some x->¬(λf=>¬gp u f) x) (λcr _=>n - (intOf cr).toNat)
 case atStart=>exact⟨0,rfl,ad,Kf,λj x be=>ad⟩
 case round=>
  obtain⟨i,rfl,I,ar,aZ⟩:=hrel;have bd:=ak ar aZ;by_cases aq:i<n
  .obtain⟨bT,cT,f,IA,x,ic,bo,y,lc,rfl,cy,J,c0,c1,c2,c3,bJ,aS,Z,b3⟩:=(bN.2.on (Fr.ext ar)).oq aq;have S:y=f.aq.length:=by have:=b3.1;simpa using this.symm
   have cF:=av Z b3 (show y<=140737488355328 by rw[S];exact bK.2.2.2.2.2 f (JL J));have br:=ae J;have aN:bT<wr.heap.size:=cy;clear J cy Z b3 bJ aS S;clear ar aZ;go_wp2_with(fail);refine(Cy u f p o k IA bo x ic y lc wr (bK.1.on bd.1) bK.2.2.2.1 bK.2.2.2.2.1 cF.1 cF.2.1 cF.2.2 (bK.2.1.aj bd.1) (bK.2.2.1.aj bd.1)).mono ?_;exact Ch
  .obtain rfl:i=n:=ad;exact Cj
theorem xd(A:Kj)(n c:Nat)(l:List ai)(u:ay)(p:UV)(o k:Nat)(w:World)(hl:Sl w (ao w) A n (l.map dP))(hn:n<=140737488355328)(hu:p.Ok w u)(bB:u.procs.length<=100000)(a8:∀q∈u.procs,q.code.length<=100000)(m:au w o 26 (p.val u))(z:au w k 3 #[.int .i64 (elems u.af)])(T:∀f∈l,f.aq.length<=140737488355328) :
  Calls prog 41 #[.slice A n c,.func (.func 42) #[] #[.pointer (some ⟨o,0,none⟩),.pointer (some ⟨k,0,none⟩)]] w (hy w (∃x∈l,(λf=>¬gp u f) x)):=by
 have b2:=ae (xe A n c l u p o k w hl hn hu bB a8 m z T);clear hl hu bB a8 m z T;go_enter func41,ntmps41;exact Ck
theorem wZ(u:ay)(p:UV)(o k:Nat)(A:Kj)(n c:Nat)(l:List ai)(w:World)(hl:Sl w (ao w) A n (l.map dP))(hn:n<=140737488355328)(hu:p.Ok w u)(bB:u.procs.length<=100000)(a8:∀q∈u.procs,q.code.length<=100000)(m:au w o 26 (p.val u))(z:au w k 3 #[.int .i64 (elems u.af)])(T:∀f∈l,f.aq.length<=140737488355328) :
  Calls prog 40 #[.agg #[.slice A n c],.pointer (some ⟨o,0,none⟩),.pointer (some ⟨k,0,none⟩)] w (hy w (∃f∈l,¬gp u f)):=by
 have bF:=jE hl hu m z bB a8 T;clear hl hu m z bB a8 T;go_enter func40,ntmps40;go_upto_region 1 with(fail);generalize ba:World.alloc _ _=W;have ar:=aY ba;have bJ:=aF ba;have ab:=ae ar;obtain⟨b0,am,aw⟩:=bJ.two;clear ba ar bJ;go_wp2_with(fail);refine(xd A n c l u p o k W (bF.1.on (Fr.ext ab.o)) hn (bF.2.1.on ab.o) bF.2.2.2.2.1 bF.2.2.2.2.2.1 (bF.2.2.1.aj ab.o) (bF.2.2.2.1.aj ab.o) bF.2.2.2.2.2.2).mono ?_;rintro e aV ⟨bb,rfl,H,aO⟩;have bO:=ak H (ab.trans aO);clear H aO b0 am aw;go_wp2_with(fail);go_ret;exact⟨bb,rfl,bO.1,bO.2⟩
theorem ui(A:Kj)(n c:Nat)(l:List (List ai))(u:ay)(p:UV)(o k:Nat)(w:World)(hl:Sl w (ao w) A n (l.map jg))(hn:n<=140737488355328)(hu:p.Ok w u)(bB:u.procs.length<=100000)(a8:∀q∈u.procs,q.code.length<=100000)(m:au w o 26 (p.val u))(z:au w k 3 #[.int .i64 (elems u.af)])(T:∀t∈l,t.length<=140737488355328/\∀f∈t,f.aq.length<=140737488355328) :
  Calls prog 93 #[.slice A n c,.func (.func 40) #[] #[.pointer (some ⟨o,0,none⟩),.pointer (some ⟨k,0,none⟩)]] w (xQ w l (λt=>∃f∈t,¬gp u f)):=by
 have ck:l.length=n:=by have:=hl.1;simpa using this
 have bN:=ak ck hl;have bK:=dq hu m z bB a8 T;clear hu m z bB a8 T;clear ck hl;go_enter func93,ntmps93;go_wp2_with(fail);go_loopw [8] (λcr wr=>∃i:Nat,cr=.int .i64 i/\i<=n/\Ext w wr/\∀j x,j<i->l[j]?=some x->¬(λt=>∃f∈t,¬gp u f) x) (λcr _=>n - (intOf cr).toNat)
 case atStart=>exact⟨0,rfl,ad,Kf,λj x be=>ad⟩
 case round=>
  obtain⟨i,rfl,I,ar,aZ⟩:=hrel;have bd:=ak ar aZ;by_cases aq:i<n
  .obtain⟨bT,cT,f,FA,x,fc,rfl,cy,J,c0,ax,bq⟩:=(bN.2.on (Fr.ext ar)).kN aq;have aK:x=f.length:=by have:=bq.1;simpa using this.symm
   have T:=bK.2.2.2.2.2 f (JL J);have cF:=av bq (show x<=140737488355328 by rw[aK];exact T.1) T.2;have br:=ae J;have aN:bT<wr.heap.size:=cy;clear J cy bq ax aK T;clear ar aZ;go_wp2_with(fail);refine(wZ u p o k FA x fc f wr cF.1 cF.2.1 (bK.1.on bd.1) bK.2.2.2.1 bK.2.2.2.2.1 (bK.2.1.aj bd.1) (bK.2.2.1.aj bd.1) cF.2.2).mono ?_;exact Ch
  .obtain rfl:i=n:=ad;exact Cj
theorem ue(A:Kj)(n c:Nat)(l:List (List ai))(u:ay)(p:UV)(o k:Nat)(w:World)(hl:Sl w (ao w) A n (l.map jg))(hn:n<=140737488355328)(hu:p.Ok w u)(bB:u.procs.length<=100000)(a8:∀q∈u.procs,q.code.length<=100000)(m:au w o 26 (p.val u))(z:au w k 3 #[.int .i64 (elems u.af)])(T:∀t∈l,t.length<=140737488355328/\∀f∈t,f.aq.length<=140737488355328) :
  Calls prog 39 #[.slice A n c,.func (.func 40) #[] #[.pointer (some ⟨o,0,none⟩),.pointer (some ⟨k,0,none⟩)]] w (hy w (∃x∈l,(λt=>∃f∈t,¬gp u f) x)):=by
 have b2:=ae (ui A n c l u p o k w hl hn hu bB a8 m z T);clear hl hu bB a8 m z T;go_enter func39,ntmps39;exact Ck
end Go.Proofs.YtnigabjngpnbiaaGreat
