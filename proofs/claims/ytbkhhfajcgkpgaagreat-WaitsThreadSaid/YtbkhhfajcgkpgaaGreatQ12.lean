/- Part 12 of the proof. No condition of its own. -/
import Derived.Test.YtbkhhfajcgkpgaaGreatQ11
namespace Go.Proofs.YtbkhhfajcgkpgaaGreat
open Go.RowKit Go.Proofs.Tryz
set_option maxRecDepth 1000000
set_option maxHeartbeats 25600000
set_option linter.unusedVariables false
variable{cs:List Value}{P:Nat→Prop}{p:Prop}{w:World}{s:ax}
def ax.kind:ax→Int
 | .set v _ _=>if v then 1 else 2
 | .call g _ _=>if g then 4 else 3
 | .lock u _=>if u then 6 else 5
 | .ite ..=>7
 | .gb ..=>8
 | .ret=>9
def ax.name:ax→ByteArray
 | .set _ n _=>n
 | .call _ n _=>n
 | _=>⟨#[]⟩
def ax.expr:ax→Option VE
 | .set _ _ e=>some e
 | .ite e _ _=>some e
 | .gb e _=>some e
 | _=>none
def ax.ref:ax→Option eF
 | .lock _ r=>some r
 | _=>none
def ax.args:ax→List da
 | .call _ _ aS=>aS
 | _=>[]
def ax.th:ax→al
 | .ite _ th _=>th
 | .gb _ th=>th
 | _=>.nil
def ax.el:ax→al
 | .ite _ _ el=>el
 | _=>.nil
def pj:Option eF→D
 | none=>fE
 | some r=>km r
theorem q2(s:ax):a2 s=gp s.kind s.name (nZ s.expr) (pj s.ref) (s.args.map gu) (cP s.th) (cP s.el):=by
 cases s<;>rfl
theorem mW(s:ax):(a2 s).sz=11:=by
 rw[q2];have ae:(nZ s.expr).sz=4:=by
  cases s.expr with
  | none=>rfl
  | some x=>exact cZ x
 have aC:(pj s.ref).sz=2:=by cases s.ref<;>rfl
 unfold gp;simp only[D.sz,D.yr,ae,aC]
theorem pk{x:Option VE}(h:(nZ x).rep w P cs):∃o n s A m c,cs=[.int .i64 o,.int .i64 n,.string s,.slice A m c]:=by
 cases x with
 | none=>obtain⟨A,c,rfl⟩:=eT.1 h;exact⟨_,_,_,_,_,_,rfl⟩
 | some x=>obtain⟨A,n,c,rfl,_⟩:=aV.1 h;exact⟨_,_,_,_,_,_,rfl⟩
theorem tp{x:Option eF}(h:(pj x).rep w P cs):∃s A m c,cs=[.string s,.slice A m c]:=by
 cases x with
 | none=>
  unfold pj fE at h;rw[bu,b9] at h;obtain⟨z,rfl,hx⟩:=h;obtain⟨A,n,c,a9,rfl,_,_,bi⟩:=aD.1 hx;rw[aJ] at bi;subst bi
  exact⟨_,_,_,_,rfl⟩
 | some x=>obtain⟨A,n,c,rfl,_⟩:=jk.1 h;exact⟨_,_,_,_,rfl⟩
structure Hi(w:World)(P:Nat→Prop)(s:ax)(eo en:Int)(es:ByteArray)(EA:Kr)(em ec:Nat)(rs:ByteArray)(cj:Kr)(a9 rc:Nat)(ce:Kr)(n1:Nat)(A2:Kr)(n2:Nat)(cf:Kr)(n3:Nat):Prop where
 expr:(nZ s.expr).rep w P [.int .i64 eo,.int .i64 en,.string es,.slice EA em ec]
 ref:(pj s.ref).rep w P [.string rs,.slice cj a9 rc]
 args:Sl w P ce n1 (s.args.map gu)
 th:Sl w P A2 n2 (cP s.th)
 el:Sl w P cf n3 (cP s.el)
theorem k1(h:(a2 s).rep w P cs):∃eo en es EA em ec rs cj a9 rc ce n1 c1 A2 n2 c2 cf n3 c3,
  cs=[.int .i64 s.kind,.string s.name,.int .i64 eo,.int .i64 en,.string es,.slice EA em ec,.string rs,.slice cj a9 rc,.slice ce n1 c1,.slice A2 n2 c2,.slice cf n3 c3]∧
  Hi w P s eo en es EA em ec rs cj a9 rc ce n1 A2 n2 cf n3:=by
 rw[q2] at h;unfold gp at h;rw[bu,aZ] at h;obtain⟨y,rfl,h⟩:=h;rw[b9] at h;obtain⟨bm,rfl,h⟩:=h;obtain⟨E,aa,rfl,he,h⟩:=dq.1 h;obtain⟨aE,cI,rfl,aU,h⟩:=dq.1 h;obtain⟨ce,n1,c1,a,rfl,_,ae,h⟩:=aD.1 h;obtain⟨A2,n2,c2,b,rfl,_,aC,h⟩:=aD.1 h;obtain⟨cf,n3,c3,d,rfl,_,aT,h⟩:=aD.1 h;rw[aJ] at h;subst h;obtain⟨o,n,s,A,m,c,rfl⟩:=pk he;obtain⟨aV,I,bn,az,rfl⟩:=tp aU
 iterate 19 apply Exists.intro
 exact⟨rfl,he,aU,ae,aC,aT⟩
def nc:al→Prop
 | .nil=>True
 | .set _ _ e rest=>(∃N d,e.src N d)∧nc rest
 | .call _ _ aS rest=>((∀a∈aS,ES a)∧aS.length≤1000)∧nc rest
 | .lock _ r rest=>Dt r∧nc rest
 | .ite e th el rest=>(∃N d,e.src N d)∧nc th∧nc el∧nc rest
 | .gb e th rest=>(∃N d,e.src N d)∧nc th∧nc rest
 | .ret rest=>nc rest
def g0(b:al):Prop:=∀(t:Nat) (A:Kr) (n c:Nat) (w:World),t+b.num≤1000000→Sl w (au w) A n (cP b)→(cq t b).length≤262144→
 Calls prog 132 #[.slice A n c,.string (strOf (List.replicate t 9))] w fun e ac=>e=.returned (.string (strOf (cq t b)))∧Ext w ac
structure uH(s:ax)(N:Nat):Prop where
 expr:∀e,s.expr=some e→∃N d,e.src N d
 ref:∀r,s.ref=some r→Dt r
 args:∀a∈s.args,ES a
 jm:s.args.length≤1000
 th:g0 s.th
 el:g0 s.el
 GG:s.th.num<N∨s.th=.nil
 GF:s.el.num<N∨s.el=.nil
theorem gQ{α:Type}{x:α}(h:(none:Option α)=some x):p:=by cases h
theorem IG(f:∀b:al,(∀s∈b.list,uH s b.num)→g0 b):∀b:al,nc b→g0 b∧∀s∈b.list,uH s b.num:=by
 have mono:∀{s:ax} {n m:Nat},n≤m→uH s n→uH s m:=fun h k=>⟨k.expr,k.ref,k.args,k.jm,k.th,k.el,k.GG.imp (fun x=>JR x h) id,k.GF.imp (fun x=>JR x h) id⟩
 have c:g0 .nil:=f .nil fun s hs=>by simp[al.list] at hs
 have fin:∀b:al,(∀s∈b.list,uH s b.num)→g0 b∧∀s∈b.list,uH s b.num:=fun b h=>⟨f b h,h⟩
 intro b
 induction b with
 | nil=>exact fun _=>fin _ fun s hs=>by simp[al.list] at hs
 | set v n e rest ao=>
  intro h;refine fin _ fun s hs=>?_;rcases J6.1 hs with rfl|hs
  ·exact⟨fun l he=>(by cases he;exact h.1),fun r aU=>gQ aU,fun a aV=>(nomatch aV),by simp[ax.args],c,c,.inr rfl,.inr rfl⟩
  ·exact mono (by simp[al.num]) ((ao h.2).2 s hs)
 | call g n aS rest ao=>
  intro h;refine fin _ fun s hs=>?_;rcases J6.1 hs with rfl|hs
  ·exact⟨fun l he=>gQ he,fun r aU=>gQ aU,h.1.1,h.1.2,c,c,.inr rfl,.inr rfl⟩
  ·exact mono (by simp[al.num]) ((ao h.2).2 s hs)
 | lock u r rest ao=>
  intro h;refine fin _ fun s hs=>?_;rcases J6.1 hs with rfl|hs
  ·exact⟨fun l he=>gQ he,fun d aU=>(by cases aU;exact h.1),fun a aV=>(nomatch aV),by simp[ax.args],c,c,.inr rfl,.inr rfl⟩
  ·exact mono (by simp[al.num]) ((ao h.2).2 s hs)
 | ite e th el rest j o ao=>
  intro h;refine fin _ fun s hs=>?_;rcases J6.1 hs with rfl|hs
  ·exact⟨fun l he=>(by cases he;exact h.1),fun r aU=>gQ aU,fun a aV=>(nomatch aV),by simp[ax.args],(j h.2.1).1,(o h.2.2.1).1,.inl (by simp[ax.th,al.num];omega),.inl (by simp[ax.el,al.num];omega)⟩
  ·exact mono (by simp[al.num];omega) ((ao h.2.2.2).2 s hs)
 | gb e th rest j ao=>
  intro h;refine fin _ fun s hs=>?_;rcases J6.1 hs with rfl|hs
  ·exact⟨fun l he=>(by cases he;exact h.1),fun r aU=>gQ aU,fun a aV=>(nomatch aV),by simp[ax.args],(j h.2.1).1,c,.inl (by simp[ax.th,al.num];omega),.inr rfl⟩
  ·exact mono (by simp[al.num];omega) ((ao h.2.2).2 s hs)
 | ret rest ao=>
  intro h;refine fin _ fun s hs=>?_;rcases J6.1 hs with rfl|hs
  ·exact⟨fun l he=>gQ he,fun r aU=>gQ aU,fun a aV=>(nomatch aV),by simp[ax.args],c,c,.inr rfl,.inr rfl⟩
  ·exact mono (by simp[al.num]) ((ao h).2 s hs)
def iA(t:Nat)(l:List ax):List UInt8:=(l.map (dh t)).flatten
theorem xB{t:Nat}{l:List ax}{k:Nat}(h:l[k]?=some s):iA t (l.take (k+1))=iA t (l.take k)++dh t s:=by
 unfold iA;rw[List.take_add_one,h,JX,List.flatten_append];simp
theorem wU(t:Nat)(l:List ax)(k:Nat):(iA t (l.take k)).length≤(iA t l).length:=by
 conv=>rhs;rw[←List.take_append_drop k l]
 unfold iA;rw[JX,List.flatten_append,JS];omega
theorem eJ:∀b:al,b.list.length≤b.num
 | .nil=>JQ _
 | .set v n e rest=>by have:=eJ rest;simp[al.list,al.num];omega
 | .call g n aS rest=>by have:=eJ rest;simp[al.list,al.num];omega
 | .lock u r rest=>by have:=eJ rest;simp[al.list,al.num];omega
 | .ite e th el rest=>by have:=eJ rest;simp[al.list,al.num];omega
 | .gb e th rest=>by have:=eJ rest;simp[al.list,al.num];omega
 | .ret rest=>by have:=eJ rest;simp[al.list,al.num];omega
namespace Bx
theorem zg(h:p:=by
 exact AB
 ):p:=h
theorem zN(h:p:=by
 obtain⟨bs,z⟩:=aM aL l;have a8:=ad (D.on Q.expr (Fr.ext l));have ai:=ad (D.on Q.ref (Fr.ext l));have Y:=ad (Q.args.on (Fr.ext l));have ah:=ad (Q.th.on (Fr.ext l));have aJ:=ad (Q.el.on (Fr.ext l));obtain⟨a0,ap,ak⟩:=aL.two;clear bg l aL d0 d1 d2 d3 d4 d5 d6 d7 d8 d9 d10 Q aW;have au:(strOf (iA t (b.list.take k))++T).size≤2000000:=by rw[ByteArray.size_append];omega
 generalize E:strOf (iA t (b.list.take k))++T=pre at *;have y:=ad E.symm;clear E bi
 cases s with
 | set v nm e=>
  obtain⟨N,d,hx⟩:=av.expr e rfl;have aP:=ad (jw N d e hx);have aD:(bL e).length≤262144:=by have:=I.o;simp[dh] at this;omega
  have f:=ad aD;have bl:(strOf (bL e)).size≤262144:=by rw[aG];exact aD
  have G:nm.size≤262144:=by have:=I.o;simp[dh] at this;have aC:nm.size=nm.data.toList.length:=rfl;simp at aC;omega
  clear aD hx;simp only[ax.kind,ax.name] at *;cases v
  ·simp only[Kl,if_false] at *;have bt:=ad (show (((((pre++nm)++(⟨#[32,61,32]⟩:ByteArray))++strOf (bL e))++(⟨#[59]⟩:ByteArray))++(⟨#[10]⟩:ByteArray))=strOf (iA t (b.list.take (k+1))) by
    rw[i.o,y.o,←L.o];rw[show (⟨#[32,61,32]⟩:ByteArray)=strOf [32,61,32] from rfl];rw[show (⟨#[59]⟩:ByteArray)=strOf [59] from rfl];rw[show (⟨#[10]⟩:ByteArray)=strOf [10] from rfl];conv=>lhs;rw[←cT nm]
    rw[ag,ag,ag,ag,ag,ag];simp[dh])
   go_wp2;refine eE (fun _=>False) [(0,3),(1,3),(2,0),(3,3),(4,3),(5,3),(6,0),(7,1),(8,3),(9,3),(10,3)] ?_
   iterate 2 refine pf ?_
   refine ph ?_;refine bf (v:=?_) rfl (by rfl) (fun V=>?_) ?_;rotate_left
   ·go_simp;exact dR
   try simp only[PU]
   refine bf (v:=?_) rfl (by rfl) (fun V=>?_) ?_;rotate_left
   ·go_simp;exact dR
   try simp only[PU]
   refine pf ?_;refine ph ?_;refine aK rfl (fun K hK=>?_);go_simp;refine(aP.o _ _ _ _ _ _ _ (D.on a8.o (Fr.ext Kn.drew)) f.o).mono ?_;exact zf
  ·simp only[if_true] at *;have bt:=ad (show ((((((pre++(⟨#[118,97,114,32]⟩:ByteArray))++nm)++(⟨#[32,61,32]⟩:ByteArray))++strOf (bL e))++(⟨#[59]⟩:ByteArray))++(⟨#[10]⟩:ByteArray))=strOf (iA t (b.list.take (k+1))) by
    rw[i.o,y.o,←L.o];rw[show (⟨#[118,97,114,32]⟩:ByteArray)=strOf [118,97,114,32] from rfl];rw[show (⟨#[32,61,32]⟩:ByteArray)=strOf [32,61,32] from rfl];rw[show (⟨#[59]⟩:ByteArray)=strOf [59] from rfl];rw[show (⟨#[10]⟩:ByteArray)=strOf [10] from rfl];conv=>lhs;rw[←cT nm]
    rw[ag,ag,ag,ag,ag,ag,ag];simp[dh])
   go_wp2;refine eE (fun _=>False) [(0,3),(1,3),(2,3),(3,0),(4,3),(5,3),(6,3),(7,0),(8,1),(9,3),(10,3),(11,3)] ?_;refine pf ?_;refine bf (v:=?_) rfl (by rfl) (fun V=>?_) ?_;rotate_left
   ·go_simp;exact dR
   try simp only[PU]
   refine pf ?_;refine ph ?_;refine bf (v:=?_) rfl (by rfl) (fun V=>?_) ?_;rotate_left
   ·go_simp;exact dR
   try simp only[PU]
   refine bf (v:=?_) rfl (by rfl) (fun V=>?_) ?_;rotate_left
   ·go_simp;exact dR
   try simp only[PU]
   refine pf ?_;refine ph ?_;refine aK rfl (fun K hK=>?_);go_simp;refine(aP.o _ _ _ _ _ _ _ (D.on a8.o (Fr.ext Kn.drew)) f.o).mono ?_
   exact Ar
 | call g nm aS=>
  have aP:=ad (r3 aS av.args);have aD:(hj aS).length≤262144:=by have:=I.o;simp[dh] at this;omega
  have f:=ad aD;have cy:n1≤1000:=by have ae:=Y.1;have aC:=av.jm;simp[ax.args] at ae aC;omega
  have ac:=ad cy;have bl:(strOf (hj aS)).size≤262144:=by rw[aG];exact aD
  have G:nm.size≤262144:=by have:=I.o;simp[dh] at this;have aC:nm.size=nm.data.toList.length:=rfl;simp at aC;omega
  clear aD cy;simp only[ax.kind,ax.name] at *;cases g
  ·simp only[Kl,if_false] at *;have bt:=ad (show ((((pre++nm)++strOf (hj aS))++(⟨#[59]⟩:ByteArray))++(⟨#[10]⟩:ByteArray))=strOf (iA t (b.list.take (k+1))) by
    rw[i.o,y.o,←L.o];rw[show (⟨#[59]⟩:ByteArray)=strOf [59] from rfl];rw[show (⟨#[10]⟩:ByteArray)=strOf [10] from rfl];conv=>lhs;rw[←cT nm]
    rw[ag,ag,ag,ag,ag];simp[dh])
   go_wp2;refine eE (fun _=>False) [(0,3),(1,3),(2,0),(3,3),(4,3),(5,0),(6,1),(7,3),(8,3),(9,3)] ?_
   iterate 2 refine pf ?_
   exact AA
  ·simp only[if_true] at *;have bt:=ad (show (((((pre++(⟨#[103,111,32]⟩:ByteArray))++nm)++strOf (hj aS))++(⟨#[59]⟩:ByteArray))++(⟨#[10]⟩:ByteArray))=strOf (iA t (b.list.take (k+1))) by
    rw[i.o,y.o,←L.o];rw[show (⟨#[103,111,32]⟩:ByteArray)=strOf [103,111,32] from rfl];rw[show (⟨#[59]⟩:ByteArray)=strOf [59] from rfl];rw[show (⟨#[10]⟩:ByteArray)=strOf [10] from rfl];conv=>lhs;rw[←cT nm]
    rw[ag,ag,ag,ag,ag,ag];simp[dh])
   go_wp2;refine eE (fun _=>False) [(0,3),(1,3),(2,3),(3,0),(4,3),(5,3),(6,0),(7,1),(8,3),(9,3),(10,3)] ?_;refine pf ?_;refine bf (v:=?_) rfl (by rfl) (fun V=>?_) ?_;rotate_left
   ·go_simp;exact dR
   try simp only[PU]
   refine pf ?_
   exact AA
 | lock u r=>
  have aP:=ad (kx r (av.ref r rfl));have aD:(fD r).length≤262144:=by have:=I.o;simp[dh] at this;omega
  have f:=ad aD;have bl:(strOf (fD r)).size≤262144:=by rw[aG];exact aD
  clear aD;simp only[ax.kind,ax.name] at *;cases u
  ·simp only[Kl,if_false] at *;have bt:=ad (show ((((pre++(⟨#[108,111,99,107,32]⟩:ByteArray))++strOf (fD r))++(⟨#[59]⟩:ByteArray))++(⟨#[10]⟩:ByteArray))=strOf (iA t (b.list.take (k+1))) by
    rw[i.o,y.o,←L.o];rw[show (⟨#[108,111,99,107,32]⟩:ByteArray)=strOf [108,111,99,107,32] from rfl];rw[show (⟨#[59]⟩:ByteArray)=strOf [59] from rfl];rw[show (⟨#[10]⟩:ByteArray)=strOf [10] from rfl];rw[ag,ag,ag,ag,ag];simp[dh])
   exact Aw
  ·simp only[if_true] at *;have bt:=ad (show ((((pre++(⟨#[117,110,108,111,99,107,32]⟩:ByteArray))++strOf (fD r))++(⟨#[59]⟩:ByteArray))++(⟨#[10]⟩:ByteArray))=strOf (iA t (b.list.take (k+1))) by
    rw[i.o,y.o,←L.o];rw[show (⟨#[117,110,108,111,99,107,32]⟩:ByteArray)=strOf [117,110,108,111,99,107,32] from rfl];rw[show (⟨#[59]⟩:ByteArray)=strOf [59] from rfl];rw[show (⟨#[10]⟩:ByteArray)=strOf [10] from rfl];rw[ag,ag,ag,ag,ag];simp[dh])
   exact Aw
 | gb e th=>
  obtain⟨N,d,hx⟩:=av.expr e rfl;have aP:=ad (jw N d e hx);have aD:(bL e).length≤262144:=by have:=I.o;simp[dh] at this;omega
  have be:(cq (t+1) th).length≤262144:=by have:=I.o;simp[dh] at this;unfold cq;omega
  obtain⟨f,H⟩:=aM aD be;have bl:(strOf (bL e)).size≤262144:=by rw[aG];exact aD
  have G:(strOf (cq (t+1) th)).size≤262144:=by rw[aG];exact be
  have x:=ad (show T++⟨#[9]⟩=strOf (List.replicate (t+1) 9) by rw[←L.o,show (⟨#[9]⟩:ByteArray)=strOf [9] from rfl,ag,List.replicate_succ']);have U:=ad (show t+1+th.num≤1000000 by
   have ae:=m.o;have aC:=eJ b;have aT:=bK.o;rcases av.GG with h|h
   ·simp only[ax.th] at h;omega
   ·simp only[ax.th] at h;subst h;simp only[al.num];omega)
  clear aD hx be;simp only[ax.kind,ax.name] at *;obtain rfl:n3=0:=by have:=aJ.1;simpa[ax.el,cP] using this.symm
  have bt:=ad (show (((((((pre++(⟨#[119,104,105,108,101,32]⟩:ByteArray))++strOf (bL e))++(⟨#[32,123,10]⟩:ByteArray))++strOf (cq (t+1) th))++T)++(⟨#[125]⟩:ByteArray))++(⟨#[10]⟩:ByteArray))=strOf (iA t (b.list.take (k+1))) by
   rw[i.o,y.o,←L.o];rw[show (⟨#[119,104,105,108,101,32]⟩:ByteArray)=strOf [119,104,105,108,101,32] from rfl];rw[show (⟨#[32,123,10]⟩:ByteArray)=strOf [32,123,10] from rfl];rw[show (⟨#[125]⟩:ByteArray)=strOf [125] from rfl];rw[show (⟨#[10]⟩:ByteArray)=strOf [10] from rfl];rw[ag,ag,ag,ag,ag,ag,ag,ag];simp[dh,cq])
  exact Aq
 | ite e th el=>
  obtain⟨N,d,hx⟩:=av.expr e rfl;have aP:=ad (jw N d e hx);have aD:(bL e).length≤262144:=by have:=I.o;simp[dh] at this;omega
  have be:(cq (t+1) th).length≤262144:=by have:=I.o;simp[dh] at this;unfold cq;omega
  obtain⟨f,H⟩:=aM aD be;have bl:(strOf (bL e)).size≤262144:=by rw[aG];exact aD
  have G:(strOf (cq (t+1) th)).size≤262144:=by rw[aG];exact be
  have x:=ad (show T++⟨#[9]⟩=strOf (List.replicate (t+1) 9) by rw[←L.o,show (⟨#[9]⟩:ByteArray)=strOf [9] from rfl,ag,List.replicate_succ']);have U:=ad (show t+1+th.num≤1000000 by
   have ae:=m.o;have aC:=eJ b;have aT:=bK.o;rcases av.GG with h|h
   ·simp only[ax.th] at h;omega
   ·simp only[ax.th] at h;subst h;simp only[al.num];omega)
  clear aD hx be;simp only[ax.kind,ax.name] at *;have S:=ad aJ.1;by_cases ds:n3=0
  ·subst ds;have j:=ad (show el.isNil=true by have ae:=S.o;simp only[ax.el,cx,JU] at ae;cases el<;>first|rfl|simp[al.list] at ae);have bt:=ad (show (((((((pre++(⟨#[105,102,32]⟩:ByteArray))++strOf (bL e))++(⟨#[32,123,10]⟩:ByteArray))++strOf (cq (t+1) th))++T)++(⟨#[125]⟩:ByteArray))++(⟨#[10]⟩:ByteArray))=strOf (iA t (b.list.take (k+1))) by
    rw[i.o,y.o,←L.o];rw[show (⟨#[105,102,32]⟩:ByteArray)=strOf [105,102,32] from rfl];rw[show (⟨#[32,123,10]⟩:ByteArray)=strOf [32,123,10] from rfl];rw[show (⟨#[125]⟩:ByteArray)=strOf [125] from rfl];rw[show (⟨#[10]⟩:ByteArray)=strOf [10] from rfl];rw[ag,ag,ag,ag,ag,ag,ag,ag];simp[dh,cq,j.o])
   exact Aq
  ·have j:=ad (show el.isNil=false by have ae:=S.o;simp only[ax.el,cx,JU] at ae;cases el<;>first|rfl|(simp[al.list] at ae;omega));have am:(cq (t+1) el).length≤262144:=by have:=I.o;simp[dh,j.o] at this;unfold cq;omega
   have M:=ad am;have ao:(strOf (cq (t+1) el)).size≤262144:=by rw[aG];exact am
   have bA:=ad (show t+1+el.num≤1000000 by
    have ae:=m.o;have aC:=eJ b;have aT:=bK.o;rcases av.GF with h|h
    ·simp only[ax.el] at h;omega
    ·simp only[ax.el] at h;subst h;simp only[al.num];omega)
   have du:0<n3:=ab;clear am;have bt:=ad (show (((((((((((pre++(⟨#[105,102,32]⟩:ByteArray))++strOf (bL e))++(⟨#[32,123,10]⟩:ByteArray))++strOf (cq (t+1) th))++T)++(⟨#[125]⟩:ByteArray))++(⟨#[32,101,108,115,101,32,123,10]⟩:ByteArray))++strOf (cq (t+1) el))++T)++(⟨#[125]⟩:ByteArray))++(⟨#[10]⟩:ByteArray))=strOf (iA t (b.list.take (k+1))) by
    rw[i.o,y.o,←L.o];rw[show (⟨#[105,102,32]⟩:ByteArray)=strOf [105,102,32] from rfl];rw[show (⟨#[32,123,10]⟩:ByteArray)=strOf [32,123,10] from rfl];rw[show (⟨#[125]⟩:ByteArray)=strOf [125] from rfl];rw[show (⟨#[32,101,108,115,101,32,123,10]⟩:ByteArray)=strOf [32,101,108,115,101,32,123,10] from rfl];rw[show (⟨#[10]⟩:ByteArray)=strOf [10] from rfl];rw[ag,ag,ag,ag,ag,ag,ag,ag,ag,ag,ag,ag];simp[dh,cq,j.o])
   go_wp2;refine eE (fun _=>False) [(0,3),(1,3),(2,3),(3,3),(4,0),(8,3),(9,0),(10,3),(11,3),(14,3),(5,1),(6,3),(7,3),(12,2),(13,3),(15,3),(16,3),(17,3)] ?_
   iterate 2 refine pf ?_
   refine bf (v:=?_) rfl (by rfl) (fun V=>?_) ?_;rotate_left
   ·go_simp;exact dR
   try simp only[PU]
   refine pf ?_;refine ph ?_;refine pf ?_;refine ph ?_;refine pf ?_;refine bf (v:=?_) rfl (by rfl) (fun V=>?_) ?_;rotate_left
   ·go_simp;exact dR
   try simp only[PU]
   refine pf ?_;refine aK rfl (fun K hK=>?_);go_simp;refine(aP.o _ _ _ _ _ _ _ (D.on a8.o (Fr.ext Kn.drew)) f.o).mono ?_;rintro e aN ⟨rfl,ar⟩;refine dW hK (ar) ?_;clear hK K;refine bf (v:=?_) rfl (by rfl) (fun V=>?_) ?_;rotate_left
   ·go_simp;exact dR
   try simp only[PU]
   refine bf (v:=?_) rfl (by rfl) (fun V=>?_) ?_;rotate_left
   ·go_simp;exact dR
   try simp only[PU]
   refine aq rfl (fun K hK=>?_);go_simp;rw[x.o];refine((show g0 th from av.th) (t+1) A2 n2 c2 _ U.o (ah.on (Fr.ext (Fr.aO ar))) H.o).mono ?_;rintro e aO ⟨rfl,bI⟩;refine eD hK ?_;clear hK K;refine bf (v:=?_) rfl (by rfl) (fun V=>?_) ?_;rotate_left
   ·go_simp;exact dR
   try simp only[PU]
   refine bf (v:=?_) rfl (by rfl) (fun V=>?_) ?_;rotate_left
   ·go_simp;exact dR
   try simp only[PU]
   refine bf (v:=?_) rfl (by rfl) (fun V=>?_) ?_;rotate_left
   ·go_simp;exact dR
   try simp only[PU]
   refine pf ?_;refine aA ?_;have br:=ad ((Fr.aO ar).trans bI);obtain⟨v0,aH⟩:=Fr.uu br.o;clear ar bI;have cv:decide ((n3:Int) > 0)=true:=by simp;omega
   go_wp2_with(fail);rw[x.o];refine((show g0 el from av.el) (t+1) cf n3 c3 _ bA.o (aJ.on (Fr.ext br.o)) M.o).mono ?_;rintro e bU ⟨rfl,bX⟩;have J:=ad (br.trans bX);clear bX;go_wp2;go_roundw
   case rel=>exact⟨k+1,ab,by go_num,by rw[←bt.o],a2.trans (z.trans J.o)⟩
   case measure=>exact aB
 | ret=>
  simp only[ax.kind,ax.name] at *;have bt:=ad (show ((pre++(⟨#[114,101,116,117,114,110,59]⟩:ByteArray))++(⟨#[10]⟩:ByteArray))=strOf (iA t (b.list.take (k+1))) by
   rw[i.o,y.o,←L.o];rw[show (⟨#[114,101,116,117,114,110,59]⟩:ByteArray)=strOf [114,101,116,117,114,110,59] from rfl];rw[show (⟨#[10]⟩:ByteArray)=strOf [10] from rfl];rw[ag,ag,ag];simp[dh])
  have br:=ad (Fr.refl (fun _=>False) W);exact wI
 ):p:=h
theorem uS(h:p:=by
 have Q:=ad P;clear Z dG P a5 q a3 O;exact zM
 ):p:=h
end Bx
open Bx in
theorem vw(b:al)(X:∀s∈b.list,uH s b.num):g0 b:=by
 intro t A n c w DL hs hlen;have hl:b.list.length=n:=by rw[←hs.1,cx,JU]
 have hn:n≤1000000:=by have:=eJ b;omega
 have R:t≤1000000:=ab;have an:(strOf (List.replicate t 9)).size≤1000000:=by rw[aG,List.length_replicate];exact R
 rw[cx] at hs;rw[eI] at hlen ⊢;obtain⟨bK,bu,ay⟩:=ez hl hs X;have F:=ad (show (iA t b.list).length≤262144 from hlen);have m:=ad DL;have aa:=ad (show iA t (b.list.take n)=(b.list.map (dh t)).flatten by rw[←hl,List.take_length];rfl);clear hs X hlen hl DL R;generalize hT:strOf (List.replicate t 9)=T at *;have L:=ad hT;clear hT;go_enter func132,ntmps132;go_wp2;go_loopw [5,6] (fun sv ba wr=>∃k:Nat,k≤n∧ba=.int .i64 k∧sv=.string (strOf (iA t (b.list.take k)))∧Ext w wr) (fun _ ba _=>n - (intOf ba).toNat)
 case atStart=>exact⟨0,ab,rfl,rfl,Kn⟩
 case round=>
  obtain⟨k,aj,rfl,rfl,aF⟩:=hrel;have a2:=ad aF;clear aF;have bi:(strOf (iA t (b.list.take k))).size≤262144:=by
   rw[aG];exact J7 (wU t _ k) F.o
  by_cases aw:k<n
  ·obtain⟨c8,o,s,cs,rfl,O,a5,dG,a3,Z⟩:=(bu.on (Fr.ext a2.o)).gN mW aw;have aW:c8<wr.heap.size:=O;have i:=ad (xB (t:=t) a5);have av:=ad (ay.o s (JT a5));have q:(dh t s).length≤262144:=by
    have ae:=wU t b.list (k+1);rw[i.o] at ae;have aC:=F.o;simp at ae;omega
   have I:=ad q;obtain⟨eo,en,es,EA,em,ec,rs,cj,a9,rc,ce,n1,c1,A2,n2,c2,cf,n3,c3,rfl,P⟩:=k1 dG;exact uR
  ·obtain rfl:k=n:=ab;go_wp2;go_ret;exact⟨ret_str (by rw[aa.o]),a2.o⟩
end Go.Proofs.YtbkhhfajcgkpgaaGreat
