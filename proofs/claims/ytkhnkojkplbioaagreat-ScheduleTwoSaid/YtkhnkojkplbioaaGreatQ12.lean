/- Part 12 of the proof. No condition of its own. -/
import Derived.Test.YtkhnkojkplbioaaGreatQ11
namespace Go.Proofs.YtkhnkojkplbioaaGreat
open Go.RowKit Go.Proofs.Tryz
set_option maxRecDepth 1000000
set_option maxHeartbeats 25600000
set_option linter.unusedVariables false
variable{cs:List Value}{P:Nat->Prop}{p:Prop}{w:World}{s:aA}
def aA.kind:aA->Int
 | .set v _ _=>if v then 1 else 2
 | .call g _ _=>if g then 4 else 3
 | .lock u _=>if u then 6 else 5
 | .ite ..=>7
 | .gz ..=>8
 | .ret=>9
def aA.name:aA->ByteArray
 | .set _ n _=>n
 | .call _ n _=>n
 | _=>⟨#[]⟩
def aA.expr:aA->Option VE
 | .set _ _ e=>some e
 | .ite e _ _=>some e
 | .gz e _=>some e
 | _=>none
def aA.ref:aA->Option eS
 | .lock _ r=>some r
 | _=>none
def aA.args:aA->List ds
 | .call _ _ aV=>aV
 | _=>[]
def aA.th:aA->an
 | .ite _ th _=>th
 | .gz _ th=>th
 | _=>.nil
def aA.el:aA->an
 | .ite _ _ el=>el
 | _=>.nil
def p9:Option eS->D
 | none=>fY
 | some r=>kG r
theorem rW(s:aA):bj s=gI s.kind s.name (oO s.expr) (p9 s.ref) (s.args.map gN) (c6 s.th) (c6 s.el):=by
 cases s<;>rfl
theorem nE(s:aA):(bj s).sz=11:=by
 rw[rW];have ac:(oO s.expr).sz=4:=by
  cases s.expr with
  | none=>rfl
  | some x=>exact db x
 have au:(p9 s.ref).sz=2:=by cases s.ref<;>rfl
 unfold gI;simp only[D.sz,D.zm,ac,au]
theorem qa{x:Option VE}(h:(oO x).rep w P cs):∃o n s A m c,cs=[.int .i64 o,.int .i64 n,.string s,.slice A m c]:=by
 cases x with
 | none=>obtain⟨A,c,rfl⟩:=fj.1 h;exact⟨_,_,_,_,_,_,rfl⟩
 | some x=>obtain⟨A,n,c,rfl,_⟩:=a5.1 h;exact⟨_,_,_,_,_,_,rfl⟩
theorem ur{x:Option eS}(h:(p9 x).rep w P cs):∃s A m c,cs=[.string s,.slice A m c]:=by
 cases x with
 | none=>
  unfold p9 fY at h;rw[bM,ct] at h;obtain⟨z,rfl,hx⟩:=h;obtain⟨A,n,c,br,rfl,_,_,bv⟩:=aN.1 hx;rw[aP] at bv;subst bv
  exact⟨_,_,_,_,rfl⟩
 | some x=>obtain⟨A,n,c,rfl,_⟩:=jC.1 h;exact⟨_,_,_,_,rfl⟩
structure IX(w:World)(P:Nat->Prop)(s:aA)(eo en:Int)(es:ByteArray)(EA:L3)(em ec:Nat)(rs:ByteArray)(ce:L3)(cD rc:Nat)(bZ:L3)(n1:Nat)(A2:L3)(n2:Nat)(cE:L3)(n3:Nat):Prop where
 expr:(oO s.expr).rep w P [.int .i64 eo,.int .i64 en,.string es,.slice EA em ec]
 ref:(p9 s.ref).rep w P [.string rs,.slice ce cD rc]
 args:Sl w P bZ n1 (s.args.map gN)
 th:Sl w P A2 n2 (c6 s.th)
 el:Sl w P cE n3 (c6 s.el)
theorem lv(h:(bj s).rep w P cs):∃eo en es EA em ec rs ce cD rc bZ n1 c1 A2 n2 c2 cE n3 c3,
  cs=[.int .i64 s.kind,.string s.name,.int .i64 eo,.int .i64 en,.string es,.slice EA em ec,.string rs,.slice ce cD rc,.slice bZ n1 c1,.slice A2 n2 c2,.slice cE n3 c3]/\
  IX w P s eo en es EA em ec rs ce cD rc bZ n1 A2 n2 cE n3:=by
 rw[rW] at h;unfold gI at h;rw[bM,bq] at h;obtain⟨y,rfl,h⟩:=h;rw[ct] at h;obtain⟨ch,rfl,h⟩:=h;obtain⟨E,bA,rfl,he,h⟩:=dH.1 h;obtain⟨ax,b7,rfl,ba,h⟩:=dH.1 h;obtain⟨bZ,n1,c1,a,rfl,_,ac,h⟩:=aN.1 h;obtain⟨A2,n2,c2,b,rfl,_,au,h⟩:=aN.1 h;obtain⟨cE,n3,c3,d,rfl,_,aY,h⟩:=aN.1 h;rw[aP] at h;subst h;obtain⟨o,n,s,A,m,c,rfl⟩:=qa he;obtain⟨Q,I,bP,aK,rfl⟩:=ur ba
 iterate 19 apply Exists.intro
 exact⟨rfl,he,ba,ac,au,aY⟩
def nS:an->Prop
 | .nil=>True
 | .set _ _ e rest=>(∃N d,e.src N d)/\nS rest
 | .call _ _ aV rest=>((∀a∈aV,Gs a)/\aV.length<=1000)/\nS rest
 | .lock _ r rest=>E8 r/\nS rest
 | .ite e th el rest=>(∃N d,e.src N d)/\nS th/\nS el/\nS rest
 | .gz e th rest=>(∃N d,e.src N d)/\nS th/\nS rest
 | .ret rest=>nS rest
def hv(b:an):Prop:=∀(t:Nat) (A:L3) (n c:Nat) (w:World),t+b.num<=1000000->Sl w (av w) A n (c6 b)->(cF t b).length<=262144->
 Calls prog 155 #[.slice A n c,.string (strOf (List.replicate t 9))] w λe ab=>e=.returned (.string (strOf (cF t b)))/\Ext w ab
structure vG(s:aA)(N:Nat):Prop where
 expr:∀e,s.expr=some e->∃N d,e.src N d
 ref:∀r,s.ref=some r->E8 r
 args:∀a∈s.args,Gs a
 jF:s.args.length<=1000
 th:hv s.th
 el:hv s.el
 Ib:s.th.num<N\/s.th=.nil
 Ia:s.el.num<N\/s.el=.nil
theorem hf{α:Type}{x:α}(h:(none:Option α)=some x):p:=by cases h
theorem Ke(f:∀b:an,(∀s∈b.list,vG s b.num)->hv b):∀b:an,nS b->hv b/\∀s∈b.list,vG s b.num:=by
 have mono:∀{s:aA} {n m:Nat},n<=m->vG s n->vG s m:=λh k=>⟨k.expr,k.ref,k.args,k.jF,k.th,k.el,k.Ib.imp (λx=>Ll x h) id,k.Ia.imp (λx=>Ll x h) id⟩
 have c:hv .nil:=f .nil λs hs=>by simp[an.list] at hs
 have fin:∀b:an,(∀s∈b.list,vG s b.num)->hv b/\∀s∈b.list,vG s b.num:=λb h=>⟨f b h,h⟩
 intro b
 induction b with
 | nil=>exact λ_=>fin _ λs hs=>by simp[an.list] at hs
 | set v n e rest ao=>
  intro h;refine fin _ λs hs=>?_;rcases LC.1 hs with rfl|hs
  .exact⟨λF he=>(by cases he;exact h.1),λr ba=>hf ba,λa bz=>(nomatch bz),by simp[aA.args],c,c,.inr rfl,.inr rfl⟩
  .exact mono (by simp[an.num]) ((ao h.2).2 s hs)
 | call g n aV rest ao=>
  intro h;refine fin _ λs hs=>?_;rcases LC.1 hs with rfl|hs
  .exact⟨λF he=>hf he,λr ba=>hf ba,h.1.1,h.1.2,c,c,.inr rfl,.inr rfl⟩
  .exact mono (by simp[an.num]) ((ao h.2).2 s hs)
 | lock u r rest ao=>
  intro h;refine fin _ λs hs=>?_;rcases LC.1 hs with rfl|hs
  .exact⟨λF he=>hf he,λd ba=>(by cases ba;exact h.1),λa bz=>(nomatch bz),by simp[aA.args],c,c,.inr rfl,.inr rfl⟩
  .exact mono (by simp[an.num]) ((ao h.2).2 s hs)
 | ite e th el rest j l ao=>
  intro h;refine fin _ λs hs=>?_;rcases LC.1 hs with rfl|hs
  .exact⟨λF he=>(by cases he;exact h.1),λr ba=>hf ba,λa bz=>(nomatch bz),by simp[aA.args],(j h.2.1).1,(l h.2.2.1).1,.inl (by simp[aA.th,an.num];omega),.inl (by simp[aA.el,an.num];omega)⟩
  .exact mono (by simp[an.num];omega) ((ao h.2.2.2).2 s hs)
 | gz e th rest j ao=>
  intro h;refine fin _ λs hs=>?_;rcases LC.1 hs with rfl|hs
  .exact⟨λF he=>(by cases he;exact h.1),λr ba=>hf ba,λa bz=>(nomatch bz),by simp[aA.args],(j h.2.1).1,c,.inl (by simp[aA.th,an.num];omega),.inr rfl⟩
  .exact mono (by simp[an.num];omega) ((ao h.2.2).2 s hs)
 | ret rest ao=>
  intro h;refine fin _ λs hs=>?_;rcases LC.1 hs with rfl|hs
  .exact⟨λF he=>hf he,λr ba=>hf ba,λa bz=>(nomatch bz),by simp[aA.args],c,c,.inr rfl,.inr rfl⟩
  .exact mono (by simp[an.num]) ((ao h).2 s hs)
def iT(t:Nat)(l:List aA):List UInt8:=(l.map (dx t)).flatten
theorem yF{t:Nat}{l:List aA}{k:Nat}(h:l[k]?=some s):iT t (l.take (k+1))=iT t (l.take k)++dx t s:=by
 unfold iT;rw[List.take_add_one,h,Lr,List.flatten_append];simp
theorem xU(t:Nat)(l:List aA)(k:Nat):(iT t (l.take k)).length<=(iT t l).length:=by
 conv=>rhs;rw[<-List.take_append_drop k l]
 unfold iT;rw[Lr,List.flatten_append,Lm];omega
theorem eX:∀b:an,b.list.length<=b.num
 | .nil=>Lk _
 | .set v n e rest=>by have:=eX rest;simp[an.list,an.num];omega
 | .call g n aV rest=>by have:=eX rest;simp[an.list,an.num];omega
 | .lock u r rest=>by have:=eX rest;simp[an.list,an.num];omega
 | .ite e th el rest=>by have:=eX rest;simp[an.list,an.num];omega
 | .gz e th rest=>by have:=eX rest;simp[an.list,an.num];omega
 | .ret rest=>by have:=eX rest;simp[an.list,an.num];omega
namespace Cp
theorem Aq(h:p:=by
 exact BW
 ):p:=h
theorem vS(h:p:=by
 have R:=ae P;clear Z dQ P ch m a8 O;go_upto_region 7 with(fail);generalize be:World.alloc wr _=W;have l:=aW be;have aR:=aI be;obtain⟨bO,L⟩:=aJ aR l;have bf:=ae (D.on R.expr (Fr.ext l));have ab:=ae (D.on R.ref (Fr.ext l));have Q:=ae (R.args.on (Fr.ext l));have Y:=ae (R.th.on (Fr.ext l));have a9:=ae (R.el.on (Fr.ext l));obtain⟨a0,aj,af⟩:=aR.two;clear be l aR d0 d1 d2 d3 d4 d5 d6 d7 d8 d9 d10 R aT;have am:(strOf (iT t (b.list.take k))++T).size<=2000000:=by rw[ByteArray.size_append];omega
 generalize E:strOf (iT t (b.list.take k))++T=pre at *;have y:=ae E.symm;clear E bv
 cases s with
 | set v nm e=>
  obtain⟨N,d,hx⟩:=a4.expr e rfl;have aQ:=ae (jP N d e hx);have cy:(b0 e).length<=262144:=by have:=aE.o;simp[dx] at this;omega
  have f:=ae cy;have cx:(strOf (b0 e)).size<=262144:=by rw[aO];exact cy
  have z:nm.size<=262144:=by have:=aE.o;simp[dx] at this;have au:nm.size=nm.data.toList.length:=rfl;simp at au;omega
  clear cy hx;simp only[aA.kind,aA.name] at *;cases v
  .simp only[LS,if_false] at *;have aL:=ae (show (((((pre++nm)++(⟨#[32,61,32]⟩:ByteArray))++strOf (b0 e))++(⟨#[59]⟩:ByteArray))++(⟨#[10]⟩:ByteArray))=strOf (iT t (b.list.take (k+1))) by
    rw[i.o,y.o,<-aa.o];rw[show (⟨#[32,61,32]⟩:ByteArray)=strOf [32,61,32] from rfl];rw[show (⟨#[59]⟩:ByteArray)=strOf [59] from rfl];rw[show (⟨#[10]⟩:ByteArray)=strOf [10] from rfl];conv=>lhs;rw[<-dd nm]
    rw[ah,ah,ah,ah,ah,ah];simp[dx])
   go_wp2;refine eC (λ_=>False) [(0,3),(1,3),(2,0),(3,3),(4,3),(5,3),(6,0),(7,1),(8,3),(9,3),(10,3)] ?_
   iterate 2 refine pf ?_
   refine ph ?_;refine bu (v:=?_) rfl (by rfl) (λV=>?_) ?_;rotate_left
   .go_simp;exact ep
   try simp only[PU]
   refine bu (v:=?_) rfl (by rfl) (λV=>?_) ?_;rotate_left
   .go_simp;exact ep
   try simp only[PU]
   refine pf ?_;refine ph ?_;refine aG rfl (λK hK=>?_);go_simp;refine(aQ.o _ _ _ _ _ _ _ (D.on bf.o (Fr.ext LW.drew)) f.o).mono ?_;exact Ap
  .simp only[if_true] at *;have aL:=ae (show ((((((pre++(⟨#[118,97,114,32]⟩:ByteArray))++nm)++(⟨#[32,61,32]⟩:ByteArray))++strOf (b0 e))++(⟨#[59]⟩:ByteArray))++(⟨#[10]⟩:ByteArray))=strOf (iT t (b.list.take (k+1))) by
    rw[i.o,y.o,<-aa.o];rw[show (⟨#[118,97,114,32]⟩:ByteArray)=strOf [118,97,114,32] from rfl];rw[show (⟨#[32,61,32]⟩:ByteArray)=strOf [32,61,32] from rfl];rw[show (⟨#[59]⟩:ByteArray)=strOf [59] from rfl];rw[show (⟨#[10]⟩:ByteArray)=strOf [10] from rfl];conv=>lhs;rw[<-dd nm]
    rw[ah,ah,ah,ah,ah,ah,ah];simp[dx])
   go_wp2;refine eC (λ_=>False) [(0,3),(1,3),(2,3),(3,0),(4,3),(5,3),(6,3),(7,0),(8,1),(9,3),(10,3),(11,3)] ?_;refine pf ?_;refine bu (v:=?_) rfl (by rfl) (λV=>?_) ?_;rotate_left
   .go_simp;exact ep
   try simp only[PU]
   refine pf ?_;refine ph ?_;refine bu (v:=?_) rfl (by rfl) (λV=>?_) ?_;rotate_left
   .go_simp;exact ep
   try simp only[PU]
   refine bu (v:=?_) rfl (by rfl) (λV=>?_) ?_;rotate_left
   .go_simp;exact ep
   try simp only[PU]
   refine pf ?_;refine ph ?_;refine aG rfl (λK hK=>?_);go_simp;refine(aQ.o _ _ _ _ _ _ _ (D.on bf.o (Fr.ext LW.drew)) f.o).mono ?_
   exact BF
 | call g nm aV=>
  have aQ:=ae (s4 aV a4.args);have cy:(hY aV).length<=262144:=by have:=aE.o;simp[dx] at this;omega
  have f:=ae cy;have c4:n1<=1000:=by have ac:=Q.1;have au:=a4.jF;simp[aA.args] at ac au;omega
  have X:=ae c4;have cx:(strOf (hY aV)).size<=262144:=by rw[aO];exact cy
  have z:nm.size<=262144:=by have:=aE.o;simp[dx] at this;have au:nm.size=nm.data.toList.length:=rfl;simp at au;omega
  clear cy c4;simp only[aA.kind,aA.name] at *;cases g
  .simp only[LS,if_false] at *;have aL:=ae (show ((((pre++nm)++strOf (hY aV))++(⟨#[59]⟩:ByteArray))++(⟨#[10]⟩:ByteArray))=strOf (iT t (b.list.take (k+1))) by
    rw[i.o,y.o,<-aa.o];rw[show (⟨#[59]⟩:ByteArray)=strOf [59] from rfl];rw[show (⟨#[10]⟩:ByteArray)=strOf [10] from rfl];conv=>lhs;rw[<-dd nm]
    rw[ah,ah,ah,ah,ah];simp[dx])
   go_wp2;refine eC (λ_=>False) [(0,3),(1,3),(2,0),(3,3),(4,3),(5,0),(6,1),(7,3),(8,3),(9,3)] ?_
   iterate 2 refine pf ?_
   exact BV
  .simp only[if_true] at *;have aL:=ae (show (((((pre++(⟨#[103,111,32]⟩:ByteArray))++nm)++strOf (hY aV))++(⟨#[59]⟩:ByteArray))++(⟨#[10]⟩:ByteArray))=strOf (iT t (b.list.take (k+1))) by
    rw[i.o,y.o,<-aa.o];rw[show (⟨#[103,111,32]⟩:ByteArray)=strOf [103,111,32] from rfl];rw[show (⟨#[59]⟩:ByteArray)=strOf [59] from rfl];rw[show (⟨#[10]⟩:ByteArray)=strOf [10] from rfl];conv=>lhs;rw[<-dd nm]
    rw[ah,ah,ah,ah,ah,ah];simp[dx])
   go_wp2;refine eC (λ_=>False) [(0,3),(1,3),(2,3),(3,0),(4,3),(5,3),(6,0),(7,1),(8,3),(9,3),(10,3)] ?_;refine pf ?_;refine bu (v:=?_) rfl (by rfl) (λV=>?_) ?_;rotate_left
   .go_simp;exact ep
   try simp only[PU]
   refine pf ?_
   exact BV
 | lock u r=>
  have aQ:=ae (kO r (a4.ref r rfl));have cy:(fW r).length<=262144:=by have:=aE.o;simp[dx] at this;omega
  have f:=ae cy;have cx:(strOf (fW r)).size<=262144:=by rw[aO];exact cy
  clear cy;simp only[aA.kind,aA.name] at *;cases u
  .simp only[LS,if_false] at *;have aL:=ae (show ((((pre++(⟨#[108,111,99,107,32]⟩:ByteArray))++strOf (fW r))++(⟨#[59]⟩:ByteArray))++(⟨#[10]⟩:ByteArray))=strOf (iT t (b.list.take (k+1))) by
    rw[i.o,y.o,<-aa.o];rw[show (⟨#[108,111,99,107,32]⟩:ByteArray)=strOf [108,111,99,107,32] from rfl];rw[show (⟨#[59]⟩:ByteArray)=strOf [59] from rfl];rw[show (⟨#[10]⟩:ByteArray)=strOf [10] from rfl];rw[ah,ah,ah,ah,ah];simp[dx])
   exact BN
  .simp only[if_true] at *;have aL:=ae (show ((((pre++(⟨#[117,110,108,111,99,107,32]⟩:ByteArray))++strOf (fW r))++(⟨#[59]⟩:ByteArray))++(⟨#[10]⟩:ByteArray))=strOf (iT t (b.list.take (k+1))) by
    rw[i.o,y.o,<-aa.o];rw[show (⟨#[117,110,108,111,99,107,32]⟩:ByteArray)=strOf [117,110,108,111,99,107,32] from rfl];rw[show (⟨#[59]⟩:ByteArray)=strOf [59] from rfl];rw[show (⟨#[10]⟩:ByteArray)=strOf [10] from rfl];rw[ah,ah,ah,ah,ah];simp[dx])
   exact BN
 | gz e th=>
  obtain⟨N,d,hx⟩:=a4.expr e rfl;have aQ:=ae (jP N d e hx);have cy:(b0 e).length<=262144:=by have:=aE.o;simp[dx] at this;omega
  have bM:(cF (t+1) th).length<=262144:=by have:=aE.o;simp[dx] at this;unfold cF;omega
  obtain⟨f,I⟩:=aJ cy bM;have cx:(strOf (b0 e)).size<=262144:=by rw[aO];exact cy
  have z:(strOf (cF (t+1) th)).size<=262144:=by rw[aO];exact bM
  have q:=ae (show T++⟨#[9]⟩=strOf (List.replicate (t+1) 9) by rw[<-aa.o,show (⟨#[9]⟩:ByteArray)=strOf [9] from rfl,ah,List.replicate_succ']);have M:=ae (show t+1+th.num<=1000000 by
   have ac:=S.o;have au:=eX b;have aY:=b8.o;rcases a4.Ib with h|h
   .simp only[aA.th] at h;omega
   .simp only[aA.th] at h;subst h;simp only[an.num];omega)
  clear cy hx bM;simp only[aA.kind,aA.name] at *;obtain rfl:n3=0:=by have:=a9.1;simpa[aA.el,c6] using this.symm
  have aL:=ae (show (((((((pre++(⟨#[119,104,105,108,101,32]⟩:ByteArray))++strOf (b0 e))++(⟨#[32,123,10]⟩:ByteArray))++strOf (cF (t+1) th))++T)++(⟨#[125]⟩:ByteArray))++(⟨#[10]⟩:ByteArray))=strOf (iT t (b.list.take (k+1))) by
   rw[i.o,y.o,<-aa.o];rw[show (⟨#[119,104,105,108,101,32]⟩:ByteArray)=strOf [119,104,105,108,101,32] from rfl];rw[show (⟨#[32,123,10]⟩:ByteArray)=strOf [32,123,10] from rfl];rw[show (⟨#[125]⟩:ByteArray)=strOf [125] from rfl];rw[show (⟨#[10]⟩:ByteArray)=strOf [10] from rfl];rw[ah,ah,ah,ah,ah,ah,ah,ah];simp[dx,cF])
  exact BE
 | ite e th el=>
  obtain⟨N,d,hx⟩:=a4.expr e rfl;have aQ:=ae (jP N d e hx);have cy:(b0 e).length<=262144:=by have:=aE.o;simp[dx] at this;omega
  have bM:(cF (t+1) th).length<=262144:=by have:=aE.o;simp[dx] at this;unfold cF;omega
  obtain⟨f,I⟩:=aJ cy bM;have cx:(strOf (b0 e)).size<=262144:=by rw[aO];exact cy
  have z:(strOf (cF (t+1) th)).size<=262144:=by rw[aO];exact bM
  have q:=ae (show T++⟨#[9]⟩=strOf (List.replicate (t+1) 9) by rw[<-aa.o,show (⟨#[9]⟩:ByteArray)=strOf [9] from rfl,ah,List.replicate_succ']);have M:=ae (show t+1+th.num<=1000000 by
   have ac:=S.o;have au:=eX b;have aY:=b8.o;rcases a4.Ib with h|h
   .simp only[aA.th] at h;omega
   .simp only[aA.th] at h;subst h;simp only[an.num];omega)
  clear cy hx bM;simp only[aA.kind,aA.name] at *;have x:=ae a9.1;by_cases dJ:n3=0
  .subst dJ;have j:=ae (show el.isNil=true by have ac:=x.o;simp only[aA.el,cG,Lo] at ac;cases el<;>first|rfl|simp[an.list] at ac);have aL:=ae (show (((((((pre++(⟨#[105,102,32]⟩:ByteArray))++strOf (b0 e))++(⟨#[32,123,10]⟩:ByteArray))++strOf (cF (t+1) th))++T)++(⟨#[125]⟩:ByteArray))++(⟨#[10]⟩:ByteArray))=strOf (iT t (b.list.take (k+1))) by
    rw[i.o,y.o,<-aa.o];rw[show (⟨#[105,102,32]⟩:ByteArray)=strOf [105,102,32] from rfl];rw[show (⟨#[32,123,10]⟩:ByteArray)=strOf [32,123,10] from rfl];rw[show (⟨#[125]⟩:ByteArray)=strOf [125] from rfl];rw[show (⟨#[10]⟩:ByteArray)=strOf [10] from rfl];rw[ah,ah,ah,ah,ah,ah,ah,ah];simp[dx,cF,j.o])
   exact BE
  .have j:=ae (show el.isNil=false by have ac:=x.o;simp only[aA.el,cG,Lo] at ac;cases el<;>first|rfl|(simp[an.list] at ac;omega));have bc:(cF (t+1) el).length<=262144:=by have:=aE.o;simp[dx,j.o] at this;unfold cF;omega
   have J:=ae bc;have ak:(strOf (cF (t+1) el)).size<=262144:=by rw[aO];exact bc
   have bK:=ae (show t+1+el.num<=1000000 by
    have ac:=S.o;have au:=eX b;have aY:=b8.o;rcases a4.Ia with h|h
    .simp only[aA.el] at h;omega
    .simp only[aA.el] at h;subst h;simp only[an.num];omega)
   have cm:0<n3:=ad;clear bc;have aL:=ae (show (((((((((((pre++(⟨#[105,102,32]⟩:ByteArray))++strOf (b0 e))++(⟨#[32,123,10]⟩:ByteArray))++strOf (cF (t+1) th))++T)++(⟨#[125]⟩:ByteArray))++(⟨#[32,101,108,115,101,32,123,10]⟩:ByteArray))++strOf (cF (t+1) el))++T)++(⟨#[125]⟩:ByteArray))++(⟨#[10]⟩:ByteArray))=strOf (iT t (b.list.take (k+1))) by
    rw[i.o,y.o,<-aa.o];rw[show (⟨#[105,102,32]⟩:ByteArray)=strOf [105,102,32] from rfl];rw[show (⟨#[32,123,10]⟩:ByteArray)=strOf [32,123,10] from rfl];rw[show (⟨#[125]⟩:ByteArray)=strOf [125] from rfl];rw[show (⟨#[32,101,108,115,101,32,123,10]⟩:ByteArray)=strOf [32,101,108,115,101,32,123,10] from rfl];rw[show (⟨#[10]⟩:ByteArray)=strOf [10] from rfl];rw[ah,ah,ah,ah,ah,ah,ah,ah,ah,ah,ah,ah];simp[dx,cF,j.o])
   go_wp2;refine eC (λ_=>False) [(0,3),(1,3),(2,3),(3,3),(4,0),(8,3),(9,0),(10,3),(11,3),(14,3),(5,1),(6,3),(7,3),(12,2),(13,3),(15,3),(16,3),(17,3)] ?_
   iterate 2 refine pf ?_
   refine bu (v:=?_) rfl (by rfl) (λV=>?_) ?_;rotate_left
   .go_simp;exact ep
   try simp only[PU]
   refine pf ?_;refine ph ?_;refine pf ?_;refine ph ?_;refine pf ?_;refine bu (v:=?_) rfl (by rfl) (λV=>?_) ?_;rotate_left
   .go_simp;exact ep
   try simp only[PU]
   refine pf ?_;refine aG rfl (λK hK=>?_);go_simp;refine(aQ.o _ _ _ _ _ _ _ (D.on bf.o (Fr.ext LW.drew)) f.o).mono ?_;rintro e aS ⟨rfl,ar⟩;refine dq hK (ar) ?_;clear hK K;refine bu (v:=?_) rfl (by rfl) (λV=>?_) ?_;rotate_left
   .go_simp;exact ep
   try simp only[PU]
   refine bu (v:=?_) rfl (by rfl) (λV=>?_) ?_;rotate_left
   .go_simp;exact ep
   try simp only[PU]
   refine ax rfl (λK hK=>?_);go_simp;rw[q.o];refine((show hv th from a4.th) (t+1) A2 n2 c2 _ M.o (Y.on (Fr.ext (Fr.aF ar))) I.o).mono ?_;rintro e aU ⟨rfl,bL⟩;refine dP hK ?_;clear hK K;refine bu (v:=?_) rfl (by rfl) (λV=>?_) ?_;rotate_left
   .go_simp;exact ep
   try simp only[PU]
   refine bu (v:=?_) rfl (by rfl) (λV=>?_) ?_;rotate_left
   .go_simp;exact ep
   try simp only[PU]
   refine bu (v:=?_) rfl (by rfl) (λV=>?_) ?_;rotate_left
   .go_simp;exact ep
   try simp only[PU]
   refine pf ?_;refine aC ?_;have bx:=ae ((Fr.aF ar).trans bL);obtain⟨v0,ay⟩:=Fr.tM bx.o;clear ar bL;have df:decide ((n3:Int) > 0)=true:=by simp;omega
   go_wp2_with(fail);rw[q.o];refine((show hv el from a4.el) (t+1) cE n3 c3 _ bK.o (a9.on (Fr.ext bx.o)) J.o).mono ?_;rintro e b6 ⟨rfl,bX⟩;have aX:=ae (bx.trans bX);clear bX;go_wp2;go_roundw
   case rel=>exact⟨k+1,ad,by go_num,by rw[<-aL.o],bo.trans (L.trans aX.o)⟩
   case measure=>exact aH
 | ret=>
  simp only[aA.kind,aA.name] at *;have aL:=ae (show ((pre++(⟨#[114,101,116,117,114,110,59]⟩:ByteArray))++(⟨#[10]⟩:ByteArray))=strOf (iT t (b.list.take (k+1))) by
   rw[i.o,y.o,<-aa.o];rw[show (⟨#[114,101,116,117,114,110,59]⟩:ByteArray)=strOf [114,101,116,117,114,110,59] from rfl];rw[show (⟨#[10]⟩:ByteArray)=strOf [10] from rfl];rw[ah,ah,ah];simp[dx])
  have bx:=ae (Fr.refl (λ_=>False) W);exact xL
 ):p:=h
end Cp
open Cp in
theorem wL(b:an)(H:∀s∈b.list,vG s b.num):hv b:=by
 intro t A n c w tW hs hlen;have hl:b.list.length=n:=by rw[<-hs.1,cG,Lo]
 have hn:n<=1000000:=by have:=eX b;omega
 have G:t<=1000000:=ad;have ag:(strOf (List.replicate t 9)).size<=1000000:=by rw[aO,List.length_replicate];exact G
 rw[cG] at hs;rw[eW] at hlen ⊢;obtain⟨b8,bq,ai⟩:=ek hl hs H;have F:=ae (show (iT t b.list).length<=262144 from hlen);have S:=ae tW;have U:=ae (show iT t (b.list.take n)=(b.list.map (dx t)).flatten by rw[<-hl,List.take_length];rfl);clear hs H hlen hl tW G;generalize hT:strOf (List.replicate t 9)=T at *;have aa:=ae hT;clear hT;go_enter func155,ntmps155;go_wp2;go_loopw [5,6] (λsv bg wr=>∃k:Nat,k<=n/\bg=.int .i64 k/\sv=.string (strOf (iT t (b.list.take k)))/\Ext w wr) (λ_ bg _=>n - (intOf bg).toNat)
 case atStart=>exact⟨0,ad,rfl,rfl,LW⟩
 case round=>
  obtain⟨k,ap,rfl,rfl,aw⟩:=hrel;have bo:=ae aw;clear aw;have bv:(strOf (iT t (b.list.take k))).size<=262144:=by
   rw[aO];exact LD (xU t _ k) F.o
  by_cases al:k<n
  .obtain⟨bb,o,s,cs,rfl,O,ch,dQ,a8,Z⟩:=(bq.on (Fr.ext bo.o)).g6 nE al;have aT:bb<wr.heap.size:=O;have i:=ae (yF (t:=t) ch);have a4:=ae (ai.o s (Ln ch));have m:(dx t s).length<=262144:=by
    have ac:=xU t b.list (k+1);rw[i.o] at ac;have au:=F.o;simp at ac;omega
   have aE:=ae m;obtain⟨eo,en,es,EA,em,ec,rs,ce,cD,rc,bZ,n1,c1,A2,n2,c2,cE,n3,c3,rfl,P⟩:=lv dQ;exact vR
  .obtain rfl:k=n:=ad;go_wp2;go_ret;exact⟨ret_str (by rw[U.o]),bo.o⟩
end Go.Proofs.YtkhnkojkplbioaaGreat
