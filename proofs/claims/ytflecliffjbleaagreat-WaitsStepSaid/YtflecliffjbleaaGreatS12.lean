/- Part 12 of the proof. No condition of its own. -/
import Derived.Test.YtflecliffjbleaaGreatS11
namespace Go.Proofs.YtflecliffjbleaaGreat
open Go.RowKit Go.Proofs.Tryz
set_option maxRecDepth 1000000
set_option maxHeartbeats 25600000
set_option linter.unusedVariables false
variable{cs:List Value}{P:Nat->Prop}{p:Prop}{w:World}{s:az}
def az.kind:az->Int
 | .set v _ _=>if v then 1 else 2
 | .call g _ _=>if g then 4 else 3
 | .lock u _=>if u then 6 else 5
 | .ite ..=>7
 | .gG ..=>8
 | .ret=>9
def az.name:az->ByteArray
 | .set _ n _=>n
 | .call _ n _=>n
 | _=>⟨#[]⟩
def az.expr:az->Option VE
 | .set _ _ e=>some e
 | .ite e _ _=>some e
 | .gG e _=>some e
 | _=>none
def az.ref:az->Option eW
 | .lock _ r=>some r
 | _=>none
def az.args:az->List dj
 | .call _ _ aT=>aT
 | _=>[]
def az.th:az->al
 | .ite _ th _=>th
 | .gG _ th=>th
 | _=>.nil
def az.el:az->al
 | .ite _ _ el=>el
 | _=>.nil
def qb:Option eW->D
 | none=>gj
 | some r=>kL r
theorem rU(s:az):bg s=gP s.kind s.name (oS s.expr) (qb s.ref) (s.args.map eO) (c7 s.th) (c7 s.el):=by
 cases s<;>rfl
theorem nI(s:az):(bg s).sz=11:=by
 rw[rU];have ac:(oS s.expr).sz=4:=by
  cases s.expr with
  | none=>rfl
  | some x=>exact db x
 have ax:(qb s.ref).sz=2:=by cases s.ref<;>rfl
 unfold gP;simp only[D.sz,D.zy,ac,ax]
theorem qd{x:Option VE}(h:(oS x).rep w P cs):∃o n s A m c,cs=[.int .i64 o,.int .i64 n,.string s,.slice A m c]:=by
 cases x with
 | none=>obtain⟨A,c,rfl⟩:=fv.1 h;exact⟨_,_,_,_,_,_,rfl⟩
 | some x=>obtain⟨A,n,c,rfl,_⟩:=aX.1 h;exact⟨_,_,_,_,_,_,rfl⟩
theorem ug{x:Option eW}(h:(qb x).rep w P cs):∃s A m c,cs=[.string s,.slice A m c]:=by
 cases x with
 | none=>
  unfold qb gj at h;rw[bJ,ct] at h;obtain⟨z,rfl,hx⟩:=h;obtain⟨A,n,c,cy,rfl,_,_,aG⟩:=aL.1 hx;rw[aQ] at aG;subst aG
  exact⟨_,_,_,_,rfl⟩
 | some x=>obtain⟨A,n,c,rfl,_⟩:=jG.1 h;exact⟨_,_,_,_,rfl⟩
structure I6(w:World)(P:Nat->Prop)(s:az)(eo en:Int)(es:ByteArray)(EA:Mk)(em ec:Nat)(rs:ByteArray)(cc:Mk)(cU rc:Nat)(cp:Mk)(n1:Nat)(A2:Mk)(n2:Nat)(cD:Mk)(n3:Nat):Prop where
 expr:(oS s.expr).rep w P [.int .i64 eo,.int .i64 en,.string es,.slice EA em ec]
 ref:(qb s.ref).rep w P [.string rs,.slice cc cU rc]
 args:Sl w P cp n1 (s.args.map eO)
 th:Sl w P A2 n2 (c7 s.th)
 el:Sl w P cD n3 (c7 s.el)
theorem lI(h:(bg s).rep w P cs):∃eo en es EA em ec rs cc cU rc cp n1 c1 A2 n2 c2 cD n3 c3,
  cs=[.int .i64 s.kind,.string s.name,.int .i64 eo,.int .i64 en,.string es,.slice EA em ec,.string rs,.slice cc cU rc,.slice cp n1 c1,.slice A2 n2 c2,.slice cD n3 c3]/\
  I6 w P s eo en es EA em ec rs cc cU rc cp n1 A2 n2 cD n3:=by
 rw[rU] at h;unfold gP at h;rw[bJ,bf] at h;obtain⟨y,rfl,h⟩:=h;rw[ct] at h;obtain⟨cm,rfl,h⟩:=h;obtain⟨E,bv,rfl,he,h⟩:=dG.1 h;obtain⟨aA,cJ,rfl,a9,h⟩:=dG.1 h;obtain⟨cp,n1,c1,a,rfl,_,ac,h⟩:=aL.1 h;obtain⟨A2,n2,c2,b,rfl,_,ax,h⟩:=aL.1 h;obtain⟨cD,n3,c3,d,rfl,_,a1,h⟩:=aL.1 h;rw[aQ] at h;subst h;obtain⟨o,n,s,A,m,c,rfl⟩:=qd he;obtain⟨aq,I,bS,aD,rfl⟩:=ug a9
 iterate 19 apply Exists.intro
 exact⟨rfl,he,a9,ac,ax,a1⟩
def n7:al->Prop
 | .nil=>True
 | .set _ _ e rest=>(∃N d,e.src N d)/\n7 rest
 | .call _ _ aT rest=>((∀a∈aT,Gy a)/\aT.length<=1000)/\n7 rest
 | .lock _ r rest=>E5 r/\n7 rest
 | .ite e th el rest=>(∃N d,e.src N d)/\n7 th/\n7 el/\n7 rest
 | .gG e th rest=>(∃N d,e.src N d)/\n7 th/\n7 rest
 | .ret rest=>n7 rest
def hO(b:al):Prop:=∀(t:Nat) (A:Mk) (n c:Nat) (w:World),t+b.num<=1000000->Sl w (av w) A n (c7 b)->(cF t b).length<=262144->
 Calls prog 131 #[.slice A n c,.string (strOf (List.replicate t 9))] w λe ab=>e=.returned (.string (strOf (cF t b)))/\Ext w ab
structure vF(s:az)(N:Nat):Prop where
 expr:∀e,s.expr=some e->∃N d,e.src N d
 ref:∀r,s.ref=some r->E5 r
 args:∀a∈s.args,Gy a
 jf:s.args.length<=1000
 th:hO s.th
 el:hO s.el
 Io:s.th.num<N\/s.th=.nil
 Im:s.el.num<N\/s.el=.nil
theorem hr{α:Type}{x:α}(h:(none:Option α)=some x):p:=by cases h
theorem Kq(f:∀b:al,(∀s∈b.list,vF s b.num)->hO b):∀b:al,n7 b->hO b/\∀s∈b.list,vF s b.num:=by
 have mono:∀{s:az} {n m:Nat},n<=m->vF s n->vF s m:=λh k=>⟨k.expr,k.ref,k.args,k.jf,k.th,k.el,k.Io.imp (λx=>LC x h) id,k.Im.imp (λx=>LC x h) id⟩
 have c:hO .nil:=f .nil λs hs=>by simp[al.list] at hs
 have fin:∀b:al,(∀s∈b.list,vF s b.num)->hO b/\∀s∈b.list,vF s b.num:=λb h=>⟨f b h,h⟩
 intro b
 induction b with
 | nil=>exact λ_=>fin _ λs hs=>by simp[al.list] at hs
 | set v n e rest aq=>
  intro h;refine fin _ λs hs=>?_;rcases LS.1 hs with rfl|hs
  .exact⟨λl he=>(by cases he;exact h.1),λr a9=>hr a9,λa br=>(nomatch br),by simp[az.args],c,c,.inr rfl,.inr rfl⟩
  .exact mono (by simp[al.num]) ((aq h.2).2 s hs)
 | call g n aT rest aq=>
  intro h;refine fin _ λs hs=>?_;rcases LS.1 hs with rfl|hs
  .exact⟨λl he=>hr he,λr a9=>hr a9,h.1.1,h.1.2,c,c,.inr rfl,.inr rfl⟩
  .exact mono (by simp[al.num]) ((aq h.2).2 s hs)
 | lock u r rest aq=>
  intro h;refine fin _ λs hs=>?_;rcases LS.1 hs with rfl|hs
  .exact⟨λl he=>hr he,λd a9=>(by cases a9;exact h.1),λa br=>(nomatch br),by simp[az.args],c,c,.inr rfl,.inr rfl⟩
  .exact mono (by simp[al.num]) ((aq h.2).2 s hs)
 | ite e th el rest j o aq=>
  intro h;refine fin _ λs hs=>?_;rcases LS.1 hs with rfl|hs
  .exact⟨λl he=>(by cases he;exact h.1),λr a9=>hr a9,λa br=>(nomatch br),by simp[az.args],(j h.2.1).1,(o h.2.2.1).1,.inl (by simp[az.th,al.num];omega),.inl (by simp[az.el,al.num];omega)⟩
  .exact mono (by simp[al.num];omega) ((aq h.2.2.2).2 s hs)
 | gG e th rest j aq=>
  intro h;refine fin _ λs hs=>?_;rcases LS.1 hs with rfl|hs
  .exact⟨λl he=>(by cases he;exact h.1),λr a9=>hr a9,λa br=>(nomatch br),by simp[az.args],(j h.2.1).1,c,.inl (by simp[az.th,al.num];omega),.inr rfl⟩
  .exact mono (by simp[al.num];omega) ((aq h.2.2).2 s hs)
 | ret rest aq=>
  intro h;refine fin _ λs hs=>?_;rcases LS.1 hs with rfl|hs
  .exact⟨λl he=>hr he,λr a9=>hr a9,λa br=>(nomatch br),by simp[az.args],c,c,.inr rfl,.inr rfl⟩
  .exact mono (by simp[al.num]) ((aq h).2 s hs)
def iY(t:Nat)(l:List az):List UInt8:=(l.map (dA t)).flatten
theorem yJ{t:Nat}{l:List az}{k:Nat}(h:l[k]?=some s):iY t (l.take (k+1))=iY t (l.take k)++dA t s:=by
 unfold iY;rw[List.take_add_one,h,LJ,List.flatten_append];simp
theorem xU(t:Nat)(l:List az)(k:Nat):(iY t (l.take k)).length<=(iY t l).length:=by
 conv=>rhs;rw[<-List.take_append_drop k l]
 unfold iY;rw[LJ,List.flatten_append,LD];omega
theorem e6:∀b:al,b.list.length<=b.num
 | .nil=>Lz _
 | .set v n e rest=>by have:=e6 rest;simp[al.list,al.num];omega
 | .call g n aT rest=>by have:=e6 rest;simp[al.list,al.num];omega
 | .lock u r rest=>by have:=e6 rest;simp[al.list,al.num];omega
 | .ite e th el rest=>by have:=e6 rest;simp[al.list,al.num];omega
 | .gG e th rest=>by have:=e6 rest;simp[al.list,al.num];omega
 | .ret rest=>by have:=e6 rest;simp[al.list,al.num];omega
namespace C8
theorem Av(h:p:=by
 exact B4
 ):p:=h
theorem vR(h:p:=by
 have X:=ae E;clear Z dN E cm m bq O;go_upto_region 7 with(fail);generalize bd:World.alloc wr _=W;have l:=aZ bd;have aS:=aN bd;obtain⟨bH,z⟩:=aH aS l;have bw:=ae (D.on X.expr (Fr.ext l));have ah:=ae (D.on X.ref (Fr.ext l));have Y:=ae (X.args.on (Fr.ext l));have ai:=ae (X.th.on (Fr.ext l));have aY:=ae (X.el.on (Fr.ext l));obtain⟨a0,ak,af⟩:=aS.two;clear bd l aS d0 d1 d2 d3 d4 d5 d6 d7 d8 d9 d10 X a4;have av:(strOf (iY t (b.list.take k))++T).size<=2000000:=by rw[ByteArray.size_append];omega
 generalize H:strOf (iY t (b.list.take k))++T=pre at *;have y:=ae H.symm;clear H aG
 cases s with
 | set v nm e=>
  obtain⟨N,d,hx⟩:=aO.expr e rfl;have aR:=ae (jT N d e hx);have cw:(bW e).length<=262144:=by have:=aA.o;simp[dA] at this;omega
  have f:=ae cw;have cV:(strOf (bW e)).size<=262144:=by rw[aM];exact cw
  have G:nm.size<=262144:=by have:=aA.o;simp[dA] at this;have ax:nm.size=nm.data.toList.length:=rfl;simp at ax;omega
  clear cw hx;simp only[az.kind,az.name] at *;cases v
  .simp only[Me,if_false] at *;have S:=ae (show (((((pre++nm)++(⟨#[32,61,32]⟩:ByteArray))++strOf (bW e))++(⟨#[59]⟩:ByteArray))++(⟨#[10]⟩:ByteArray))=strOf (iY t (b.list.take (k+1))) by
    rw[i.o,y.o,<-Q.o];rw[show (⟨#[32,61,32]⟩:ByteArray)=strOf [32,61,32] from rfl];rw[show (⟨#[59]⟩:ByteArray)=strOf [59] from rfl];rw[show (⟨#[10]⟩:ByteArray)=strOf [10] from rfl];conv=>lhs;rw[<-df nm]
    rw[ag,ag,ag,ag,ag,ag];simp[dA])
   go_wp2;refine eK (λ_=>False) [(0,3),(1,3),(2,0),(3,3),(4,3),(5,3),(6,0),(7,1),(8,3),(9,3),(10,3)] ?_
   iterate 2 refine pf ?_
   refine ph ?_;refine bp (v:=?_) rfl (by rfl) (λV=>?_) ?_;rotate_left
   .go_simp;exact er
   try simp only[PU]
   refine bp (v:=?_) rfl (by rfl) (λV=>?_) ?_;rotate_left
   .go_simp;exact er
   try simp only[PU]
   refine pf ?_;refine ph ?_;refine aI rfl (λK hK=>?_);go_simp;refine(aR.o _ _ _ _ _ _ _ (D.on bw.o (Fr.ext Mg.drew)) f.o).mono ?_;exact Au
  .simp only[if_true] at *;have S:=ae (show ((((((pre++(⟨#[118,97,114,32]⟩:ByteArray))++nm)++(⟨#[32,61,32]⟩:ByteArray))++strOf (bW e))++(⟨#[59]⟩:ByteArray))++(⟨#[10]⟩:ByteArray))=strOf (iY t (b.list.take (k+1))) by
    rw[i.o,y.o,<-Q.o];rw[show (⟨#[118,97,114,32]⟩:ByteArray)=strOf [118,97,114,32] from rfl];rw[show (⟨#[32,61,32]⟩:ByteArray)=strOf [32,61,32] from rfl];rw[show (⟨#[59]⟩:ByteArray)=strOf [59] from rfl];rw[show (⟨#[10]⟩:ByteArray)=strOf [10] from rfl];conv=>lhs;rw[<-df nm]
    rw[ag,ag,ag,ag,ag,ag,ag];simp[dA])
   go_wp2;refine eK (λ_=>False) [(0,3),(1,3),(2,3),(3,0),(4,3),(5,3),(6,3),(7,0),(8,1),(9,3),(10,3),(11,3)] ?_;refine pf ?_;refine bp (v:=?_) rfl (by rfl) (λV=>?_) ?_;rotate_left
   .go_simp;exact er
   try simp only[PU]
   refine pf ?_;refine ph ?_;refine bp (v:=?_) rfl (by rfl) (λV=>?_) ?_;rotate_left
   .go_simp;exact er
   try simp only[PU]
   refine bp (v:=?_) rfl (by rfl) (λV=>?_) ?_;rotate_left
   .go_simp;exact er
   try simp only[PU]
   refine pf ?_;refine ph ?_;refine aI rfl (λK hK=>?_);go_simp;refine(aR.o _ _ _ _ _ _ _ (D.on bw.o (Fr.ext Mg.drew)) f.o).mono ?_
   exact BR
 | call g nm aT=>
  have aR:=ae (sS aT aO.args);have cw:(h6 aT).length<=262144:=by have:=aA.o;simp[dA] at this;omega
  have f:=ae cw;have cP:n1<=1000:=by have ac:=Y.1;have ax:=aO.jf;simp[az.args] at ac ax;omega
  have ab:=ae cP;have cV:(strOf (h6 aT)).size<=262144:=by rw[aM];exact cw
  have G:nm.size<=262144:=by have:=aA.o;simp[dA] at this;have ax:nm.size=nm.data.toList.length:=rfl;simp at ax;omega
  clear cw cP;simp only[az.kind,az.name] at *;cases g
  .simp only[Me,if_false] at *;have S:=ae (show ((((pre++nm)++strOf (h6 aT))++(⟨#[59]⟩:ByteArray))++(⟨#[10]⟩:ByteArray))=strOf (iY t (b.list.take (k+1))) by
    rw[i.o,y.o,<-Q.o];rw[show (⟨#[59]⟩:ByteArray)=strOf [59] from rfl];rw[show (⟨#[10]⟩:ByteArray)=strOf [10] from rfl];conv=>lhs;rw[<-df nm]
    rw[ag,ag,ag,ag,ag];simp[dA])
   go_wp2;refine eK (λ_=>False) [(0,3),(1,3),(2,0),(3,3),(4,3),(5,0),(6,1),(7,3),(8,3),(9,3)] ?_
   iterate 2 refine pf ?_
   exact B3
  .simp only[if_true] at *;have S:=ae (show (((((pre++(⟨#[103,111,32]⟩:ByteArray))++nm)++strOf (h6 aT))++(⟨#[59]⟩:ByteArray))++(⟨#[10]⟩:ByteArray))=strOf (iY t (b.list.take (k+1))) by
    rw[i.o,y.o,<-Q.o];rw[show (⟨#[103,111,32]⟩:ByteArray)=strOf [103,111,32] from rfl];rw[show (⟨#[59]⟩:ByteArray)=strOf [59] from rfl];rw[show (⟨#[10]⟩:ByteArray)=strOf [10] from rfl];conv=>lhs;rw[<-df nm]
    rw[ag,ag,ag,ag,ag,ag];simp[dA])
   go_wp2;refine eK (λ_=>False) [(0,3),(1,3),(2,3),(3,0),(4,3),(5,3),(6,0),(7,1),(8,3),(9,3),(10,3)] ?_;refine pf ?_;refine bp (v:=?_) rfl (by rfl) (λV=>?_) ?_;rotate_left
   .go_simp;exact er
   try simp only[PU]
   refine pf ?_
   exact B3
 | lock u r=>
  have aR:=ae (kY r (aO.ref r rfl));have cw:(gh r).length<=262144:=by have:=aA.o;simp[dA] at this;omega
  have f:=ae cw;have cV:(strOf (gh r)).size<=262144:=by rw[aM];exact cw
  clear cw;simp only[az.kind,az.name] at *;cases u
  .simp only[Me,if_false] at *;have S:=ae (show ((((pre++(⟨#[108,111,99,107,32]⟩:ByteArray))++strOf (gh r))++(⟨#[59]⟩:ByteArray))++(⟨#[10]⟩:ByteArray))=strOf (iY t (b.list.take (k+1))) by
    rw[i.o,y.o,<-Q.o];rw[show (⟨#[108,111,99,107,32]⟩:ByteArray)=strOf [108,111,99,107,32] from rfl];rw[show (⟨#[59]⟩:ByteArray)=strOf [59] from rfl];rw[show (⟨#[10]⟩:ByteArray)=strOf [10] from rfl];rw[ag,ag,ag,ag,ag];simp[dA])
   exact BY
  .simp only[if_true] at *;have S:=ae (show ((((pre++(⟨#[117,110,108,111,99,107,32]⟩:ByteArray))++strOf (gh r))++(⟨#[59]⟩:ByteArray))++(⟨#[10]⟩:ByteArray))=strOf (iY t (b.list.take (k+1))) by
    rw[i.o,y.o,<-Q.o];rw[show (⟨#[117,110,108,111,99,107,32]⟩:ByteArray)=strOf [117,110,108,111,99,107,32] from rfl];rw[show (⟨#[59]⟩:ByteArray)=strOf [59] from rfl];rw[show (⟨#[10]⟩:ByteArray)=strOf [10] from rfl];rw[ag,ag,ag,ag,ag];simp[dA])
   exact BY
 | gG e th=>
  obtain⟨N,d,hx⟩:=aO.expr e rfl;have aR:=ae (jT N d e hx);have cw:(bW e).length<=262144:=by have:=aA.o;simp[dA] at this;omega
  have bG:(cF (t+1) th).length<=262144:=by have:=aA.o;simp[dA] at this;unfold cF;omega
  obtain⟨f,R⟩:=aH cw bG;have cV:(strOf (bW e)).size<=262144:=by rw[aM];exact cw
  have G:(strOf (cF (t+1) th)).size<=262144:=by rw[aM];exact bG
  have q:=ae (show T++⟨#[9]⟩=strOf (List.replicate (t+1) 9) by rw[<-Q.o,show (⟨#[9]⟩:ByteArray)=strOf [9] from rfl,ag,List.replicate_succ']);have U:=ae (show t+1+th.num<=1000000 by
   have ac:=I.o;have ax:=e6 b;have a1:=b2.o;rcases aO.Io with h|h
   .simp only[az.th] at h;omega
   .simp only[az.th] at h;subst h;simp only[al.num];omega)
  clear cw hx bG;simp only[az.kind,az.name] at *;obtain rfl:n3=0:=by have:=aY.1;simpa[az.el,c7] using this.symm
  have S:=ae (show (((((((pre++(⟨#[119,104,105,108,101,32]⟩:ByteArray))++strOf (bW e))++(⟨#[32,123,10]⟩:ByteArray))++strOf (cF (t+1) th))++T)++(⟨#[125]⟩:ByteArray))++(⟨#[10]⟩:ByteArray))=strOf (iY t (b.list.take (k+1))) by
   rw[i.o,y.o,<-Q.o];rw[show (⟨#[119,104,105,108,101,32]⟩:ByteArray)=strOf [119,104,105,108,101,32] from rfl];rw[show (⟨#[32,123,10]⟩:ByteArray)=strOf [32,123,10] from rfl];rw[show (⟨#[125]⟩:ByteArray)=strOf [125] from rfl];rw[show (⟨#[10]⟩:ByteArray)=strOf [10] from rfl];rw[ag,ag,ag,ag,ag,ag,ag,ag];simp[dA,cF])
  exact BQ
 | ite e th el=>
  obtain⟨N,d,hx⟩:=aO.expr e rfl;have aR:=ae (jT N d e hx);have cw:(bW e).length<=262144:=by have:=aA.o;simp[dA] at this;omega
  have bG:(cF (t+1) th).length<=262144:=by have:=aA.o;simp[dA] at this;unfold cF;omega
  obtain⟨f,R⟩:=aH cw bG;have cV:(strOf (bW e)).size<=262144:=by rw[aM];exact cw
  have G:(strOf (cF (t+1) th)).size<=262144:=by rw[aM];exact bG
  have q:=ae (show T++⟨#[9]⟩=strOf (List.replicate (t+1) 9) by rw[<-Q.o,show (⟨#[9]⟩:ByteArray)=strOf [9] from rfl,ag,List.replicate_succ']);have U:=ae (show t+1+th.num<=1000000 by
   have ac:=I.o;have ax:=e6 b;have a1:=b2.o;rcases aO.Io with h|h
   .simp only[az.th] at h;omega
   .simp only[az.th] at h;subst h;simp only[al.num];omega)
  clear cw hx bG;simp only[az.kind,az.name] at *;have x:=ae aY.1;by_cases dG:n3=0
  .subst dG;have j:=ae (show el.isNil=true by have ac:=x.o;simp only[az.el,cH,LG] at ac;cases el<;>first|rfl|simp[al.list] at ac);have S:=ae (show (((((((pre++(⟨#[105,102,32]⟩:ByteArray))++strOf (bW e))++(⟨#[32,123,10]⟩:ByteArray))++strOf (cF (t+1) th))++T)++(⟨#[125]⟩:ByteArray))++(⟨#[10]⟩:ByteArray))=strOf (iY t (b.list.take (k+1))) by
    rw[i.o,y.o,<-Q.o];rw[show (⟨#[105,102,32]⟩:ByteArray)=strOf [105,102,32] from rfl];rw[show (⟨#[32,123,10]⟩:ByteArray)=strOf [32,123,10] from rfl];rw[show (⟨#[125]⟩:ByteArray)=strOf [125] from rfl];rw[show (⟨#[10]⟩:ByteArray)=strOf [10] from rfl];rw[ag,ag,ag,ag,ag,ag,ag,ag];simp[dA,cF,j.o])
   exact BQ
  .have j:=ae (show el.isNil=false by have ac:=x.o;simp only[az.el,cH,LG] at ac;cases el<;>first|rfl|(simp[al.list] at ac;omega));have ct:(cF (t+1) el).length<=262144:=by have:=aA.o;simp[dA,j.o] at this;unfold cF;omega
   have J:=ae ct;have an:(strOf (cF (t+1) el)).size<=262144:=by rw[aM];exact ct
   have bI:=ae (show t+1+el.num<=1000000 by
    have ac:=I.o;have ax:=e6 b;have a1:=b2.o;rcases aO.Im with h|h
    .simp only[az.el] at h;omega
    .simp only[az.el] at h;subst h;simp only[al.num];omega)
   have b3:0<n3:=ad;clear ct;have S:=ae (show (((((((((((pre++(⟨#[105,102,32]⟩:ByteArray))++strOf (bW e))++(⟨#[32,123,10]⟩:ByteArray))++strOf (cF (t+1) th))++T)++(⟨#[125]⟩:ByteArray))++(⟨#[32,101,108,115,101,32,123,10]⟩:ByteArray))++strOf (cF (t+1) el))++T)++(⟨#[125]⟩:ByteArray))++(⟨#[10]⟩:ByteArray))=strOf (iY t (b.list.take (k+1))) by
    rw[i.o,y.o,<-Q.o];rw[show (⟨#[105,102,32]⟩:ByteArray)=strOf [105,102,32] from rfl];rw[show (⟨#[32,123,10]⟩:ByteArray)=strOf [32,123,10] from rfl];rw[show (⟨#[125]⟩:ByteArray)=strOf [125] from rfl];rw[show (⟨#[32,101,108,115,101,32,123,10]⟩:ByteArray)=strOf [32,101,108,115,101,32,123,10] from rfl];rw[show (⟨#[10]⟩:ByteArray)=strOf [10] from rfl];rw[ag,ag,ag,ag,ag,ag,ag,ag,ag,ag,ag,ag];simp[dA,cF,j.o])
   go_wp2;refine eK (λ_=>False) [(0,3),(1,3),(2,3),(3,3),(4,0),(8,3),(9,0),(10,3),(11,3),(14,3),(5,1),(6,3),(7,3),(12,2),(13,3),(15,3),(16,3),(17,3)] ?_
   iterate 2 refine pf ?_
   refine bp (v:=?_) rfl (by rfl) (λV=>?_) ?_;rotate_left
   .go_simp;exact er
   try simp only[PU]
   refine pf ?_;refine ph ?_;refine pf ?_;refine ph ?_;refine pf ?_;refine bp (v:=?_) rfl (by rfl) (λV=>?_) ?_;rotate_left
   .go_simp;exact er
   try simp only[PU]
   refine pf ?_;refine aI rfl (λK hK=>?_);go_simp;refine(aR.o _ _ _ _ _ _ _ (D.on bw.o (Fr.ext Mg.drew)) f.o).mono ?_;rintro e aP ⟨rfl,ar⟩;refine dP hK (ar) ?_;clear hK K;refine bp (v:=?_) rfl (by rfl) (λV=>?_) ?_;rotate_left
   .go_simp;exact er
   try simp only[PU]
   refine bp (v:=?_) rfl (by rfl) (λV=>?_) ?_;rotate_left
   .go_simp;exact er
   try simp only[PU]
   refine au rfl (λK hK=>?_);go_simp;rw[q.o];refine((show hO th from aO.th) (t+1) A2 n2 c2 _ U.o (ai.on (Fr.ext (Fr.aF ar))) R.o).mono ?_;rintro e aW ⟨rfl,bL⟩;refine dU hK ?_;clear hK K;refine bp (v:=?_) rfl (by rfl) (λV=>?_) ?_;rotate_left
   .go_simp;exact er
   try simp only[PU]
   refine bp (v:=?_) rfl (by rfl) (λV=>?_) ?_;rotate_left
   .go_simp;exact er
   try simp only[PU]
   refine bp (v:=?_) rfl (by rfl) (λV=>?_) ?_;rotate_left
   .go_simp;exact er
   try simp only[PU]
   refine pf ?_;refine aC ?_;have bu:=ae ((Fr.aF ar).trans bL);obtain⟨v0,aw⟩:=Fr.tG bu.o;clear ar bL;have da:decide ((n3:Int) > 0)=true:=by simp;omega
   go_wp2_with(fail);rw[q.o];refine((show hO el from aO.el) (t+1) cD n3 c3 _ bI.o (aY.on (Fr.ext bu.o)) J.o).mono ?_;rintro e b4 ⟨rfl,bT⟩;have a7:=ae (bu.trans bT);clear bT;go_wp2;go_roundw
   case rel=>exact⟨k+1,ad,by go_num,by rw[<-S.o],bj.trans (z.trans a7.o)⟩
   case measure=>exact aE
 | ret=>
  simp only[az.kind,az.name] at *;have S:=ae (show ((pre++(⟨#[114,101,116,117,114,110,59]⟩:ByteArray))++(⟨#[10]⟩:ByteArray))=strOf (iY t (b.list.take (k+1))) by
   rw[i.o,y.o,<-Q.o];rw[show (⟨#[114,101,116,117,114,110,59]⟩:ByteArray)=strOf [114,101,116,117,114,110,59] from rfl];rw[show (⟨#[10]⟩:ByteArray)=strOf [10] from rfl];rw[ag,ag,ag];simp[dA])
  have bu:=ae (Fr.refl (λ_=>False) W);exact xI
 ):p:=h
end C8
open C8 in
theorem wI(b:al)(M:∀s∈b.list,vF s b.num):hO b:=by
 intro t A n c w vA hs hlen;have hl:b.list.length=n:=by rw[<-hs.1,cH,LG]
 have hn:n<=1000000:=by have:=e6 b;omega
 have P:t<=1000000:=ad;have am:(strOf (List.replicate t 9)).size<=1000000:=by rw[aM,List.length_replicate];exact P
 rw[cH] at hs;rw[e5] at hlen ⊢;obtain⟨b2,bM,aq⟩:=eS hl hs M;have F:=ae (show (iY t b.list).length<=262144 from hlen);have I:=ae vA;have aa:=ae (show iY t (b.list.take n)=(b.list.map (dA t)).flatten by rw[<-hl,List.take_length];rfl);clear hs M hlen hl vA P;generalize hT:strOf (List.replicate t 9)=T at *;have Q:=ae hT;clear hT;go_enter func131,ntmps131;go_wp2;go_loopw [5,6] (λsv L wr=>∃k:Nat,k<=n/\L=.int .i64 k/\sv=.string (strOf (iY t (b.list.take k)))/\Ext w wr) (λ_ L _=>n - (intOf L).toNat)
 case atStart=>exact⟨0,ad,rfl,rfl,Mg⟩
 case round=>
  obtain⟨k,aj,rfl,rfl,aF⟩:=hrel;have bj:=ae aF;clear aF;have aG:(strOf (iY t (b.list.take k))).size<=262144:=by
   rw[aM];exact LU (xU t _ k) F.o
  by_cases ap:k<n
  .obtain⟨bb,o,s,cs,rfl,O,cm,dN,bq,Z⟩:=(bM.on (Fr.ext bj.o)).g9 nI ap;have a4:bb<wr.heap.size:=O;have i:=ae (yJ (t:=t) cm);have aO:=ae (aq.o s (LF cm));have m:(dA t s).length<=262144:=by
    have ac:=xU t b.list (k+1);rw[i.o] at ac;have ax:=F.o;simp at ac;omega
   have aA:=ae m;obtain⟨eo,en,es,EA,em,ec,rs,cc,cU,rc,cp,n1,c1,A2,n2,c2,cD,n3,c3,rfl,E⟩:=lI dN;exact vQ
  .obtain rfl:k=n:=ad;go_wp2;go_ret;exact⟨ret_str (by rw[aa.o]),bj.o⟩
end Go.Proofs.YtflecliffjbleaaGreat
