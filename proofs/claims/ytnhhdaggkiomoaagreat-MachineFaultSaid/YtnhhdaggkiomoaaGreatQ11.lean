/- Part 11 of the proof. No condition of its own. -/
import Derived.Test.YtnhhdaggkiomoaaGreatQ10
namespace Go.Proofs.YtnhhdaggkiomoaaGreat
open Go.RowKit Go.Proofs.Tryz
set_option maxRecDepth 1000000
set_option maxHeartbeats 25600000
set_option linter.unusedVariables false
variable{cs:List Value}{P:Nat→Prop}{p:Prop}{w:World}{s:aA}
def aA.kind:aA→Int
 | .set v _ _=>if v then 1 else 2
 | .call g _ _=>if g then 4 else 3
 | .lock u _=>if u then 6 else 5
 | .ite ..=>7
 | .gv ..=>8
 | .ret=>9
def aA.name:aA→ByteArray
 | .set _ n _=>n
 | .call _ n _=>n
 | _=>⟨#[]⟩
def aA.expr:aA→Option VE
 | .set _ _ e=>some e
 | .ite e _ _=>some e
 | .gv e _=>some e
 | _=>none
def aA.ref:aA→Option eO
 | .lock _ r=>some r
 | _=>none
def aA.args:aA→List dn
 | .call _ _ a1=>a1
 | _=>[]
def aA.th:aA→an
 | .ite _ th _=>th
 | .gv _ th=>th
 | _=>.nil
def aA.el:aA→an
 | .ite _ _ el=>el
 | _=>.nil
def pI:Option eO→D
 | none=>fU
 | some r=>ky r
theorem rv(s:aA):bg s=gD s.kind s.name (oq s.expr) (pI s.ref) (s.args.map gH) (c5 s.th) (c5 s.el):=by
 cases s<;>rfl
theorem ni(s:aA):(bg s).sz=11:=by
 rw[rv];have ac:(oq s.expr).sz=4:=by
  cases s.expr with
  | none=>rfl
  | some x=>exact c8 x
 have av:(pI s.ref).sz=2:=by cases s.ref<;>rfl
 unfold gD;simp only[D.sz,D.yM,ac,av]
theorem pJ{x:Option VE}(h:(oq x).rep w P cs):∃o n s A m c,cs=[.int .i64 o,.int .i64 n,.string s,.slice A m c]:=by
 cases x with
 | none=>obtain⟨A,c,rfl⟩:=fh.1 h;exact⟨_,_,_,_,_,_,rfl⟩
 | some x=>obtain⟨A,n,c,rfl,_⟩:=a1.1 h;exact⟨_,_,_,_,_,_,rfl⟩
theorem tD{x:Option eO}(h:(pI x).rep w P cs):∃s A m c,cs=[.string s,.slice A m c]:=by
 cases x with
 | none=>
  unfold pI fU at h;rw[bK,cp] at h;obtain⟨z,rfl,hx⟩:=h;obtain⟨A,n,c,bo,rfl,_,_,bt⟩:=aN.1 hx;rw[aP] at bt;subst bt
  exact⟨_,_,_,_,rfl⟩
 | some x=>obtain⟨A,n,c,rfl,_⟩:=jv.1 h;exact⟨_,_,_,_,rfl⟩
structure H7(w:World)(P:Nat→Prop)(s:aA)(eo en:Int)(es:ByteArray)(EA:Ls)(em ec:Nat)(rs:ByteArray)(cc:Ls)(c7 rc:Nat)(bY:Ls)(n1:Nat)(A2:Ls)(n2:Nat)(cC:Ls)(n3:Nat):Prop where
 expr:(oq s.expr).rep w P [.int .i64 eo,.int .i64 en,.string es,.slice EA em ec]
 ref:(pI s.ref).rep w P [.string rs,.slice cc c7 rc]
 args:Sl w P bY n1 (s.args.map gH)
 th:Sl w P A2 n2 (c5 s.th)
 el:Sl w P cC n3 (c5 s.el)
theorem k8(h:(bg s).rep w P cs):∃eo en es EA em ec rs cc c7 rc bY n1 c1 A2 n2 c2 cC n3 c3,
  cs=[.int .i64 s.kind,.string s.name,.int .i64 eo,.int .i64 en,.string es,.slice EA em ec,.string rs,.slice cc c7 rc,.slice bY n1 c1,.slice A2 n2 c2,.slice cC n3 c3]∧
  H7 w P s eo en es EA em ec rs cc c7 rc bY n1 A2 n2 cC n3:=by
 rw[rv] at h;unfold gD at h;rw[bK,bm] at h;obtain⟨y,rfl,h⟩:=h;rw[cp] at h;obtain⟨cG,rfl,h⟩:=h;obtain⟨E,b5,rfl,he,h⟩:=dE.1 h;obtain⟨az,cK,rfl,a5,h⟩:=dE.1 h;obtain⟨bY,n1,c1,a,rfl,_,ac,h⟩:=aN.1 h;obtain⟨A2,n2,c2,b,rfl,_,av,h⟩:=aN.1 h;obtain⟨cC,n3,c3,d,rfl,_,aV,h⟩:=aN.1 h;rw[aP] at h;subst h;obtain⟨o,n,s,A,m,c,rfl⟩:=pJ he;obtain⟨Q,I,bO,aK,rfl⟩:=tD a5
 iterate 19 apply Exists.intro
 exact⟨rfl,he,a5,ac,av,aV⟩
def nC:an→Prop
 | .nil=>True
 | .set _ _ e rest=>(∃N d,e.src N d)∧nC rest
 | .call _ _ a1 rest=>((∀a∈a1,FM a)∧a1.length≤1000)∧nC rest
 | .lock _ r rest=>Et r∧nC rest
 | .ite e th el rest=>(∃N d,e.src N d)∧nC th∧nC el∧nC rest
 | .gv e th rest=>(∃N d,e.src N d)∧nC th∧nC rest
 | .ret rest=>nC rest
def hj(b:an):Prop:=∀(t:Nat) (A:Ls) (n c:Nat) (w:World),t+b.num≤1000000→Sl w (au w) A n (c5 b)→(cD t b).length≤262144→
 Calls prog 142 #[.slice A n c,.string (strOf (List.replicate t 9))] w fun e ab=>e=.returned (.string (strOf (cD t b)))∧Ext w ab
structure vb(s:aA)(N:Nat):Prop where
 expr:∀e,s.expr=some e→∃N d,e.src N d
 ref:∀r,s.ref=some r→Et r
 args:∀a∈s.args,FM a
 jy:s.args.length≤1000
 th:hj s.th
 el:hj s.el
 Hs:s.th.num<N∨s.th=.nil
 Hr:s.el.num<N∨s.el=.nil
theorem g7{α:Type}{x:α}(h:(none:Option α)=some x):p:=by cases h
theorem JA(f:∀b:an,(∀s∈b.list,vb s b.num)→hj b):∀b:an,nC b→hj b∧∀s∈b.list,vb s b.num:=by
 have mono:∀{s:aA} {n m:Nat},n≤m→vb s n→vb s m:=fun h k=>⟨k.expr,k.ref,k.args,k.jy,k.th,k.el,k.Hs.imp (fun x=>KH x h) id,k.Hr.imp (fun x=>KH x h) id⟩
 have c:hj .nil:=f .nil fun s hs=>by simp[an.list] at hs
 have fin:∀b:an,(∀s∈b.list,vb s b.num)→hj b∧∀s∈b.list,vb s b.num:=fun b h=>⟨f b h,h⟩
 intro b
 induction b with
 | nil=>exact fun _=>fin _ fun s hs=>by simp[an.list] at hs
 | set v n e rest ao=>
  intro h;refine fin _ fun s hs=>?_;rcases KW.1 hs with rfl|hs
  ·exact⟨fun l he=>(by cases he;exact h.1),fun r a5=>g7 a5,fun a bx=>(nomatch bx),by simp[aA.args],c,c,.inr rfl,.inr rfl⟩
  ·exact mono (by simp[an.num]) ((ao h.2).2 s hs)
 | call g n a1 rest ao=>
  intro h;refine fin _ fun s hs=>?_;rcases KW.1 hs with rfl|hs
  ·exact⟨fun l he=>g7 he,fun r a5=>g7 a5,h.1.1,h.1.2,c,c,.inr rfl,.inr rfl⟩
  ·exact mono (by simp[an.num]) ((ao h.2).2 s hs)
 | lock u r rest ao=>
  intro h;refine fin _ fun s hs=>?_;rcases KW.1 hs with rfl|hs
  ·exact⟨fun l he=>g7 he,fun d a5=>(by cases a5;exact h.1),fun a bx=>(nomatch bx),by simp[aA.args],c,c,.inr rfl,.inr rfl⟩
  ·exact mono (by simp[an.num]) ((ao h.2).2 s hs)
 | ite e th el rest j o ao=>
  intro h;refine fin _ fun s hs=>?_;rcases KW.1 hs with rfl|hs
  ·exact⟨fun l he=>(by cases he;exact h.1),fun r a5=>g7 a5,fun a bx=>(nomatch bx),by simp[aA.args],(j h.2.1).1,(o h.2.2.1).1,.inl (by simp[aA.th,an.num];omega),.inl (by simp[aA.el,an.num];omega)⟩
  ·exact mono (by simp[an.num];omega) ((ao h.2.2.2).2 s hs)
 | gv e th rest j ao=>
  intro h;refine fin _ fun s hs=>?_;rcases KW.1 hs with rfl|hs
  ·exact⟨fun l he=>(by cases he;exact h.1),fun r a5=>g7 a5,fun a bx=>(nomatch bx),by simp[aA.args],(j h.2.1).1,c,.inl (by simp[aA.th,an.num];omega),.inr rfl⟩
  ·exact mono (by simp[an.num];omega) ((ao h.2.2).2 s hs)
 | ret rest ao=>
  intro h;refine fin _ fun s hs=>?_;rcases KW.1 hs with rfl|hs
  ·exact⟨fun l he=>g7 he,fun r a5=>g7 a5,fun a bx=>(nomatch bx),by simp[aA.args],c,c,.inr rfl,.inr rfl⟩
  ·exact mono (by simp[an.num]) ((ao h).2 s hs)
def iP(t:Nat)(l:List aA):List UInt8:=(l.map (du t)).flatten
theorem x9{t:Nat}{l:List aA}{k:Nat}(h:l[k]?=some s):iP t (l.take (k+1))=iP t (l.take k)++du t s:=by
 unfold iP;rw[List.take_add_one,h,KN,List.flatten_append];simp
theorem xn(t:Nat)(l:List aA)(k:Nat):(iP t (l.take k)).length≤(iP t l).length:=by
 conv=>rhs;rw[←List.take_append_drop k l]
 unfold iP;rw[KN,List.flatten_append,KI];omega
theorem eU:∀b:an,b.list.length≤b.num
 | .nil=>KG _
 | .set v n e rest=>by have:=eU rest;simp[an.list,an.num];omega
 | .call g n a1 rest=>by have:=eU rest;simp[an.list,an.num];omega
 | .lock u r rest=>by have:=eU rest;simp[an.list,an.num];omega
 | .ite e th el rest=>by have:=eU rest;simp[an.list,an.num];omega
 | .gv e th rest=>by have:=eU rest;simp[an.list,an.num];omega
 | .ret rest=>by have:=eU rest;simp[an.list,an.num];omega
namespace BO
theorem zS(h:p:=by
 exact Bk
 ):p:=h
theorem vn(h:p:=by
 have M:=ae Q;clear Z dv Q co m bp O;go_upto_region 7 with(fail);generalize ba:World.alloc wr _=W;have P:=aU ba;have aR:=aG ba;obtain⟨b2,l⟩:=aI aR P;have bf:=ae (D.on M.expr (Fr.ext P));have ag:=ae (D.on M.ref (Fr.ext P));have S:=ae (M.args.on (Fr.ext P));have Y:=ae (M.th.on (Fr.ext P));have a2:=ae (M.el.on (Fr.ext P));obtain⟨a0,ai,af⟩:=aR.two;clear ba P aR d0 d1 d2 d3 d4 d5 d6 d7 d8 d9 d10 M aX;have am:(strOf (iP t (b.list.take k))++T).size≤2000000:=by rw[ByteArray.size_append];omega
 generalize E:strOf (iP t (b.list.take k))++T=pre at *;have y:=ae E.symm;clear E bt
 cases s with
 | set v nm e=>
  obtain⟨N,d,hx⟩:=a5.expr e rfl;have aQ:=ae (jH N d e hx);have cH:(bX e).length≤262144:=by have:=aB.o;simp[du] at this;omega
  have f:=ae cH;have b3:(strOf (bX e)).size≤262144:=by rw[aO];exact cH
  have z:nm.size≤262144:=by have:=aB.o;simp[du] at this;have av:nm.size=nm.data.toList.length:=rfl;simp at av;omega
  clear cH hx;simp only[aA.kind,aA.name] at *;cases v
  ·simp only[Lm,if_false] at *;have aL:=ae (show (((((pre++nm)++(⟨#[32,61,32]⟩:ByteArray))++strOf (bX e))++(⟨#[59]⟩:ByteArray))++(⟨#[10]⟩:ByteArray))=strOf (iP t (b.list.take (k+1))) by
    rw[i.o,y.o,←aa.o];rw[show (⟨#[32,61,32]⟩:ByteArray)=strOf [32,61,32] from rfl];rw[show (⟨#[59]⟩:ByteArray)=strOf [59] from rfl];rw[show (⟨#[10]⟩:ByteArray)=strOf [10] from rfl];conv=>lhs;rw[←db nm]
    rw[ah,ah,ah,ah,ah,ah];simp[du])
   go_wp2;refine eK (fun _=>False) [(0,3),(1,3),(2,0),(3,3),(4,3),(5,3),(6,0),(7,1),(8,3),(9,3),(10,3)] ?_
   iterate 2 refine pf ?_
   refine ph ?_;refine br (v:=?_) rfl (by rfl) (fun V=>?_) ?_;rotate_left
   ·go_simp;exact ei
   try simp only[PU]
   refine br (v:=?_) rfl (by rfl) (fun V=>?_) ?_;rotate_left
   ·go_simp;exact ei
   try simp only[PU]
   refine pf ?_;refine ph ?_;refine aJ rfl (fun K hK=>?_);go_simp;refine(aQ.o _ _ _ _ _ _ _ (D.on bf.o (Fr.ext Lo.drew)) f.o).mono ?_;exact zR
  ·simp only[if_true] at *;have aL:=ae (show ((((((pre++(⟨#[118,97,114,32]⟩:ByteArray))++nm)++(⟨#[32,61,32]⟩:ByteArray))++strOf (bX e))++(⟨#[59]⟩:ByteArray))++(⟨#[10]⟩:ByteArray))=strOf (iP t (b.list.take (k+1))) by
    rw[i.o,y.o,←aa.o];rw[show (⟨#[118,97,114,32]⟩:ByteArray)=strOf [118,97,114,32] from rfl];rw[show (⟨#[32,61,32]⟩:ByteArray)=strOf [32,61,32] from rfl];rw[show (⟨#[59]⟩:ByteArray)=strOf [59] from rfl];rw[show (⟨#[10]⟩:ByteArray)=strOf [10] from rfl];conv=>lhs;rw[←db nm]
    rw[ah,ah,ah,ah,ah,ah,ah];simp[du])
   go_wp2;refine eK (fun _=>False) [(0,3),(1,3),(2,3),(3,0),(4,3),(5,3),(6,3),(7,0),(8,1),(9,3),(10,3),(11,3)] ?_;refine pf ?_;refine br (v:=?_) rfl (by rfl) (fun V=>?_) ?_;rotate_left
   ·go_simp;exact ei
   try simp only[PU]
   refine pf ?_;refine ph ?_;refine br (v:=?_) rfl (by rfl) (fun V=>?_) ?_;rotate_left
   ·go_simp;exact ei
   try simp only[PU]
   refine br (v:=?_) rfl (by rfl) (fun V=>?_) ?_;rotate_left
   ·go_simp;exact ei
   try simp only[PU]
   refine pf ?_;refine ph ?_;refine aJ rfl (fun K hK=>?_);go_simp;refine(aQ.o _ _ _ _ _ _ _ (D.on bf.o (Fr.ext Lo.drew)) f.o).mono ?_
   exact A5
 | call g nm a1=>
  have aQ:=ae (sy a1 a5.args);have cH:(hO a1).length≤262144:=by have:=aB.o;simp[du] at this;omega
  have f:=ae cH;have dg:n1≤1000:=by have ac:=S.1;have av:=a5.jy;simp[aA.args] at ac av;omega
  have ab:=ae dg;have b3:(strOf (hO a1)).size≤262144:=by rw[aO];exact cH
  have z:nm.size≤262144:=by have:=aB.o;simp[du] at this;have av:nm.size=nm.data.toList.length:=rfl;simp at av;omega
  clear cH dg;simp only[aA.kind,aA.name] at *;cases g
  ·simp only[Lm,if_false] at *;have aL:=ae (show ((((pre++nm)++strOf (hO a1))++(⟨#[59]⟩:ByteArray))++(⟨#[10]⟩:ByteArray))=strOf (iP t (b.list.take (k+1))) by
    rw[i.o,y.o,←aa.o];rw[show (⟨#[59]⟩:ByteArray)=strOf [59] from rfl];rw[show (⟨#[10]⟩:ByteArray)=strOf [10] from rfl];conv=>lhs;rw[←db nm]
    rw[ah,ah,ah,ah,ah];simp[du])
   go_wp2;refine eK (fun _=>False) [(0,3),(1,3),(2,0),(3,3),(4,3),(5,0),(6,1),(7,3),(8,3),(9,3)] ?_
   iterate 2 refine pf ?_
   exact Bj
  ·simp only[if_true] at *;have aL:=ae (show (((((pre++(⟨#[103,111,32]⟩:ByteArray))++nm)++strOf (hO a1))++(⟨#[59]⟩:ByteArray))++(⟨#[10]⟩:ByteArray))=strOf (iP t (b.list.take (k+1))) by
    rw[i.o,y.o,←aa.o];rw[show (⟨#[103,111,32]⟩:ByteArray)=strOf [103,111,32] from rfl];rw[show (⟨#[59]⟩:ByteArray)=strOf [59] from rfl];rw[show (⟨#[10]⟩:ByteArray)=strOf [10] from rfl];conv=>lhs;rw[←db nm]
    rw[ah,ah,ah,ah,ah,ah];simp[du])
   go_wp2;refine eK (fun _=>False) [(0,3),(1,3),(2,3),(3,0),(4,3),(5,3),(6,0),(7,1),(8,3),(9,3),(10,3)] ?_;refine pf ?_;refine br (v:=?_) rfl (by rfl) (fun V=>?_) ?_;rotate_left
   ·go_simp;exact ei
   try simp only[PU]
   refine pf ?_
   exact Bj
 | lock u r=>
  have aQ:=ae (kF r (a5.ref r rfl));have cH:(fS r).length≤262144:=by have:=aB.o;simp[du] at this;omega
  have f:=ae cH;have b3:(strOf (fS r)).size≤262144:=by rw[aO];exact cH
  clear cH;simp only[aA.kind,aA.name] at *;cases u
  ·simp only[Lm,if_false] at *;have aL:=ae (show ((((pre++(⟨#[108,111,99,107,32]⟩:ByteArray))++strOf (fS r))++(⟨#[59]⟩:ByteArray))++(⟨#[10]⟩:ByteArray))=strOf (iP t (b.list.take (k+1))) by
    rw[i.o,y.o,←aa.o];rw[show (⟨#[108,111,99,107,32]⟩:ByteArray)=strOf [108,111,99,107,32] from rfl];rw[show (⟨#[59]⟩:ByteArray)=strOf [59] from rfl];rw[show (⟨#[10]⟩:ByteArray)=strOf [10] from rfl];rw[ah,ah,ah,ah,ah];simp[du])
   exact Bc
  ·simp only[if_true] at *;have aL:=ae (show ((((pre++(⟨#[117,110,108,111,99,107,32]⟩:ByteArray))++strOf (fS r))++(⟨#[59]⟩:ByteArray))++(⟨#[10]⟩:ByteArray))=strOf (iP t (b.list.take (k+1))) by
    rw[i.o,y.o,←aa.o];rw[show (⟨#[117,110,108,111,99,107,32]⟩:ByteArray)=strOf [117,110,108,111,99,107,32] from rfl];rw[show (⟨#[59]⟩:ByteArray)=strOf [59] from rfl];rw[show (⟨#[10]⟩:ByteArray)=strOf [10] from rfl];rw[ah,ah,ah,ah,ah];simp[du])
   exact Bc
 | gv e th=>
  obtain⟨N,d,hx⟩:=a5.expr e rfl;have aQ:=ae (jH N d e hx);have cH:(bX e).length≤262144:=by have:=aB.o;simp[du] at this;omega
  have bO:(cD (t+1) th).length≤262144:=by have:=aB.o;simp[du] at this;unfold cD;omega
  obtain⟨f,I⟩:=aI cH bO;have b3:(strOf (bX e)).size≤262144:=by rw[aO];exact cH
  have z:(strOf (cD (t+1) th)).size≤262144:=by rw[aO];exact bO
  have q:=ae (show T++⟨#[9]⟩=strOf (List.replicate (t+1) 9) by rw[←aa.o,show (⟨#[9]⟩:ByteArray)=strOf [9] from rfl,ah,List.replicate_succ']);have L:=ae (show t+1+th.num≤1000000 by
   have ac:=R.o;have av:=eU b;have aV:=ca.o;rcases a5.Hs with h|h
   ·simp only[aA.th] at h;omega
   ·simp only[aA.th] at h;subst h;simp only[an.num];omega)
  clear cH hx bO;simp only[aA.kind,aA.name] at *;obtain rfl:n3=0:=by have:=a2.1;simpa[aA.el,c5] using this.symm
  have aL:=ae (show (((((((pre++(⟨#[119,104,105,108,101,32]⟩:ByteArray))++strOf (bX e))++(⟨#[32,123,10]⟩:ByteArray))++strOf (cD (t+1) th))++T)++(⟨#[125]⟩:ByteArray))++(⟨#[10]⟩:ByteArray))=strOf (iP t (b.list.take (k+1))) by
   rw[i.o,y.o,←aa.o];rw[show (⟨#[119,104,105,108,101,32]⟩:ByteArray)=strOf [119,104,105,108,101,32] from rfl];rw[show (⟨#[32,123,10]⟩:ByteArray)=strOf [32,123,10] from rfl];rw[show (⟨#[125]⟩:ByteArray)=strOf [125] from rfl];rw[show (⟨#[10]⟩:ByteArray)=strOf [10] from rfl];rw[ah,ah,ah,ah,ah,ah,ah,ah];simp[du,cD])
  exact A4
 | ite e th el=>
  obtain⟨N,d,hx⟩:=a5.expr e rfl;have aQ:=ae (jH N d e hx);have cH:(bX e).length≤262144:=by have:=aB.o;simp[du] at this;omega
  have bO:(cD (t+1) th).length≤262144:=by have:=aB.o;simp[du] at this;unfold cD;omega
  obtain⟨f,I⟩:=aI cH bO;have b3:(strOf (bX e)).size≤262144:=by rw[aO];exact cH
  have z:(strOf (cD (t+1) th)).size≤262144:=by rw[aO];exact bO
  have q:=ae (show T++⟨#[9]⟩=strOf (List.replicate (t+1) 9) by rw[←aa.o,show (⟨#[9]⟩:ByteArray)=strOf [9] from rfl,ah,List.replicate_succ']);have L:=ae (show t+1+th.num≤1000000 by
   have ac:=R.o;have av:=eU b;have aV:=ca.o;rcases a5.Hs with h|h
   ·simp only[aA.th] at h;omega
   ·simp only[aA.th] at h;subst h;simp only[an.num];omega)
  clear cH hx bO;simp only[aA.kind,aA.name] at *;have x:=ae a2.1;by_cases dJ:n3=0
  ·subst dJ;have j:=ae (show el.isNil=true by have ac:=x.o;simp only[aA.el,cF,KK] at ac;cases el<;>first|rfl|simp[an.list] at ac);have aL:=ae (show (((((((pre++(⟨#[105,102,32]⟩:ByteArray))++strOf (bX e))++(⟨#[32,123,10]⟩:ByteArray))++strOf (cD (t+1) th))++T)++(⟨#[125]⟩:ByteArray))++(⟨#[10]⟩:ByteArray))=strOf (iP t (b.list.take (k+1))) by
    rw[i.o,y.o,←aa.o];rw[show (⟨#[105,102,32]⟩:ByteArray)=strOf [105,102,32] from rfl];rw[show (⟨#[32,123,10]⟩:ByteArray)=strOf [32,123,10] from rfl];rw[show (⟨#[125]⟩:ByteArray)=strOf [125] from rfl];rw[show (⟨#[10]⟩:ByteArray)=strOf [10] from rfl];rw[ah,ah,ah,ah,ah,ah,ah,ah];simp[du,cD,j.o])
   exact A4
  ·have j:=ae (show el.isNil=false by have ac:=x.o;simp only[aA.el,cF,KK] at ac;cases el<;>first|rfl|(simp[an.list] at ac;omega));have cg:(cD (t+1) el).length≤262144:=by have:=aB.o;simp[du,j.o] at this;unfold cD;omega
   have J:=ae cg;have al:(strOf (cD (t+1) el)).size≤262144:=by rw[aO];exact cg
   have bz:=ae (show t+1+el.num≤1000000 by
    have ac:=R.o;have av:=eU b;have aV:=ca.o;rcases a5.Hr with h|h
    ·simp only[aA.el] at h;omega
    ·simp only[aA.el] at h;subst h;simp only[an.num];omega)
   have cm:0<n3:=ad;clear cg;have aL:=ae (show (((((((((((pre++(⟨#[105,102,32]⟩:ByteArray))++strOf (bX e))++(⟨#[32,123,10]⟩:ByteArray))++strOf (cD (t+1) th))++T)++(⟨#[125]⟩:ByteArray))++(⟨#[32,101,108,115,101,32,123,10]⟩:ByteArray))++strOf (cD (t+1) el))++T)++(⟨#[125]⟩:ByteArray))++(⟨#[10]⟩:ByteArray))=strOf (iP t (b.list.take (k+1))) by
    rw[i.o,y.o,←aa.o];rw[show (⟨#[105,102,32]⟩:ByteArray)=strOf [105,102,32] from rfl];rw[show (⟨#[32,123,10]⟩:ByteArray)=strOf [32,123,10] from rfl];rw[show (⟨#[125]⟩:ByteArray)=strOf [125] from rfl];rw[show (⟨#[32,101,108,115,101,32,123,10]⟩:ByteArray)=strOf [32,101,108,115,101,32,123,10] from rfl];rw[show (⟨#[10]⟩:ByteArray)=strOf [10] from rfl];rw[ah,ah,ah,ah,ah,ah,ah,ah,ah,ah,ah,ah];simp[du,cD,j.o])
   go_wp2;refine eK (fun _=>False) [(0,3),(1,3),(2,3),(3,3),(4,0),(8,3),(9,0),(10,3),(11,3),(14,3),(5,1),(6,3),(7,3),(12,2),(13,3),(15,3),(16,3),(17,3)] ?_
   iterate 2 refine pf ?_
   refine br (v:=?_) rfl (by rfl) (fun V=>?_) ?_;rotate_left
   ·go_simp;exact ei
   try simp only[PU]
   refine pf ?_;refine ph ?_;refine pf ?_;refine ph ?_;refine pf ?_;refine br (v:=?_) rfl (by rfl) (fun V=>?_) ?_;rotate_left
   ·go_simp;exact ei
   try simp only[PU]
   refine pf ?_;refine aJ rfl (fun K hK=>?_);go_simp;refine(aQ.o _ _ _ _ _ _ _ (D.on bf.o (Fr.ext Lo.drew)) f.o).mono ?_;rintro e aS ⟨rfl,ar⟩;refine dz hK (ar) ?_;clear hK K;refine br (v:=?_) rfl (by rfl) (fun V=>?_) ?_;rotate_left
   ·go_simp;exact ei
   try simp only[PU]
   refine br (v:=?_) rfl (by rfl) (fun V=>?_) ?_;rotate_left
   ·go_simp;exact ei
   try simp only[PU]
   refine ax rfl (fun K hK=>?_);go_simp;rw[q.o];refine((show hj th from a5.th) (t+1) A2 n2 c2 _ L.o (Y.on (Fr.ext (Fr.aF ar))) I.o).mono ?_;rintro e aT ⟨rfl,bw⟩;refine dO hK ?_;clear hK K;refine br (v:=?_) rfl (by rfl) (fun V=>?_) ?_;rotate_left
   ·go_simp;exact ei
   try simp only[PU]
   refine br (v:=?_) rfl (by rfl) (fun V=>?_) ?_;rotate_left
   ·go_simp;exact ei
   try simp only[PU]
   refine br (v:=?_) rfl (by rfl) (fun V=>?_) ?_;rotate_left
   ·go_simp;exact ei
   try simp only[PU]
   refine pf ?_;refine aE ?_;have bu:=ae ((Fr.aF ar).trans bw);obtain⟨v0,U⟩:=Fr.tb bu.o;clear ar bw;have dd:decide ((n3:Int) > 0)=true:=by simp;omega
   go_wp2_with(fail);rw[q.o];refine((show hj el from a5.el) (t+1) cC n3 c3 _ bz.o (a2.on (Fr.ext bu.o)) J.o).mono ?_;rintro e b6 ⟨rfl,bV⟩;have a4:=ae (bu.trans bV);clear bV;go_wp2;go_roundw
   case rel=>exact⟨k+1,ad,by go_num,by rw[←aL.o],bq.trans (l.trans a4.o)⟩
   case measure=>exact aH
 | ret=>
  simp only[aA.kind,aA.name] at *;have aL:=ae (show ((pre++(⟨#[114,101,116,117,114,110,59]⟩:ByteArray))++(⟨#[10]⟩:ByteArray))=strOf (iP t (b.list.take (k+1))) by
   rw[i.o,y.o,←aa.o];rw[show (⟨#[114,101,116,117,114,110,59]⟩:ByteArray)=strOf [114,101,116,117,114,110,59] from rfl];rw[show (⟨#[10]⟩:ByteArray)=strOf [10] from rfl];rw[ah,ah,ah];simp[du])
  have bu:=ae (Fr.refl (fun _=>False) W);exact xe
 ):p:=h
end BO
open BO in
theorem v5(b:an)(H:∀s∈b.list,vb s b.num):hj b:=by
 intro t A n c w tq hs hlen;have hl:b.list.length=n:=by rw[←hs.1,cF,KK]
 have hn:n≤1000000:=by have:=eU b;omega
 have G:t≤1000000:=ad;have aj:(strOf (List.replicate t 9)).size≤1000000:=by rw[aO,List.length_replicate];exact G
 rw[cF] at hs;rw[eT] at hlen ⊢;obtain⟨ca,bm,az⟩:=eh hl hs H;have F:=ae (show (iP t b.list).length≤262144 from hlen);have R:=ae tq;have X:=ae (show iP t (b.list.take n)=(b.list.map (du t)).flatten by rw[←hl,List.take_length];rfl);clear hs H hlen hl tq G;generalize hT:strOf (List.replicate t 9)=T at *;have aa:=ae hT;clear hT;go_enter func142,ntmps142;go_wp2;go_loopw [5,6] (fun sv bd wr=>∃k:Nat,k≤n∧bd=.int .i64 k∧sv=.string (strOf (iP t (b.list.take k)))∧Ext w wr) (fun _ bd _=>n - (intOf bd).toNat)
 case atStart=>exact⟨0,ad,rfl,rfl,Lo⟩
 case round=>
  obtain⟨k,ap,rfl,rfl,aw⟩:=hrel;have bq:=ae aw;clear aw;have bt:(strOf (iP t (b.list.take k))).size≤262144:=by
   rw[aO];exact KX (xn t _ k) F.o
  by_cases ak:k<n
  ·obtain⟨bb,o,s,cs,rfl,O,co,dv,bp,Z⟩:=(bm.on (Fr.ext bq.o)).gZ ni ak;have aX:bb<wr.heap.size:=O;have i:=ae (x9 (t:=t) co);have a5:=ae (az.o s (KJ co));have m:(du t s).length≤262144:=by
    have ac:=xn t b.list (k+1);rw[i.o] at ac;have av:=F.o;simp at ac;omega
   have aB:=ae m;obtain⟨eo,en,es,EA,em,ec,rs,cc,c7,rc,bY,n1,c1,A2,n2,c2,cC,n3,c3,rfl,Q⟩:=k8 dv;exact vm
  ·obtain rfl:k=n:=ad;go_wp2;go_ret;exact⟨ret_str (by rw[X.o]),bq.o⟩
end Go.Proofs.YtnhhdaggkiomoaaGreat
