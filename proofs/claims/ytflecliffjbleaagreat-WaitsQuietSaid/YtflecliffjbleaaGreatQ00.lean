/- Part 0 of the proof. No condition of its own. -/
import Derived.Deep.Draws
import Derived.Maps.AppendAt
import Derived.OrdersHeld
import Derived.StillTail
import Derived.Test.YtflecliffjbleaaGreatRows
import Derived.WalkKit
import Derived.WalkLawsBesides
import Derived.WalkSpells
namespace Go.Proofs.YtflecliffjbleaaGreat
open Go.RowKit Go.Proofs.Tryz
set_option maxRecDepth 1000000
set_option maxHeartbeats 25600000
set_option linter.unusedVariables false
abbrev LP:=Option Addr
abbrev LQ:=List ByteArray
def LR(p:Prop):Prop:=p
theorem LR.o{p:Prop}(h:LR p):p:=h
section
variable {P:Program} {ops:Array Oper} {Q:Exit→Act→World→Prop} {md:Region.Mode} {R:World→World→Prop} {T:Nat→Bool}
def ke(P:Program)(md:Region.Mode)(ops:Array Oper)(Q:Exit→Act→World→Prop)(R:World→World→Prop)(T:Nat→Bool):Nat→Array Bool→Act→World→Prop
 | 0,listed,a,w=>Region.ready md ops listed=[]∧Q .normal a w
 | fuel+1,listed,a,w=>
  (Region.ready md ops listed=[]→Q .normal a w)∧
  ∀i∈Region.ready md ops listed,wpOp P ops Q i (fun r ac=>(T i=true→R w ac)∧ke P md ops Q R T fuel (listed.setIfInBounds i true) r ac) a w
theorem mC:∀(fuel:Nat) (listed:Array Bool) (a:Act) (w:World),ke P md ops Q R T fuel listed a w→wpAny P md ops Q fuel listed a w
 | 0,_,_,_,h=>h
 | fuel+1,_,_,_,h=>⟨h.1,fun i ak=>wpOp_mono (fun r ac q=>mC fuel _ r ac q.2) (h.2 i ak)⟩
def jR(md:Region.Mode)(ops:Array Oper)(listed:Array Bool):Prop:=
 ∀j n,ops[j]?=some n→listed.getD j false=true→∀e∈n.after,Region.binds md e=true→listed.getD e.on false=true
theorem jR.set{i:Nat}{listed:Array Bool}(inv:jR md ops listed)(ak:i∈Region.ready md ops listed):jR md ops (listed.setIfInBounds i true):=by
 obtain⟨_,s,cd,aI⟩:=mem_ready.1 ak;intro j n bd hl e he O;by_cases v:i=j
 ·subst v;have:n=s:=Option.some.inj (bd.symm.trans cd);subst this;exact getD_set_true (aI e he O)
 ·rw[getD_set_ne false v] at hl;exact getD_set_true (inv j n bd hl e he O)
def CX(md:Region.Mode)(ops:Array Oper):Nat→Nat→Nat→Bool
 | 0,_,_=>false
 | f+1,j,i=>match ops[j]? with
  | none=>false
  | some n=>n.after.any fun e=>Region.binds md e && (e.on == i || CX md ops f e.on i)
theorem CY{i:Nat}{listed:Array Bool}(inv:jR md ops listed):∀(f j:Nat),CX md ops f j i=true→
  (∃n,ops[j]?=some n∧∀e∈n.after,Region.binds md e=true→listed.getD e.on false=true)→listed.getD i false=true:=by
 intro f
 induction f with
 | zero=>intro j h;simp[CX] at h
 | succ f ao=>
  intro j h bd;obtain⟨n,bl,aI⟩:=bd;simp only[CX,bl] at h;obtain⟨e,he,O⟩:=Array.any_eq_true'.1 h;simp only[Bool.and_eq_true,Bool.or_eq_true,beq_iff_eq] at O;have hl:=aI e he O.1;rcases O.2 with aD|aD
  ·rw[←aD];exact hl
  ·refine ao e.on aD ?_
   cases ai:ops[e.on]? with
   | none=>cases f<;>simp[CX,ai] at aD
   | some ok=>exact⟨ok,rfl,fun l a aX=>inv e.on ok ai hl l a aX⟩
theorem h3{i:Nat}{s:Oper}{v:Value}{U:World→World→Prop}(t:∀a b c,R a b→U b c→U a c)(l:∀a,R a a)(D:∀a,U a a)(ak:ops[i]?=some s)(g:∀(j:Nat) (o:Oper) cs b,ops[j]?=some o→o.op≠.select cs b)
  (hQ:∀c a w,Q (.panic c) (a.put s.dst v) w→Q (.panic c) a w) (hT:(∀a b,U a b)∨∀j,T j=false→∃f,CX md ops f j i=true) :
  ∀(fuel:Nat) (listed:Array Bool) (a:Act) (w:World),jR md ops listed→
   (∀j n,ops[j]?=some n→j≠i→listed.getD j true=false→(∀e∈n.after,Region.binds md e=true→e.on≠i)→s.apart ops n=true)→
   i∈Region.ready md ops listed→YieldsIf P ops (U w) s v a→
   ke P md ops Q R T fuel (listed.setIfInBounds i true) (a.put s.dst v) w→ke P md ops Q R T (fuel+1) listed a w:=by
 intro fuel
 induction fuel with
 | zero=>
  intro listed a w _ _ aQ a4 H;refine⟨fun h=>(by rw[h] at aQ;cases aQ),fun j bd=>?_⟩;by_cases m:j=i
  ·subst m;exact a4.wpOp ak (D w) ⟨fun _=>l w,H⟩
  ·have:=ready_mono bd m;rw[H.1] at this
   cases this
 | succ fuel ao=>
  intro listed a w inv y aQ a4 H;refine⟨fun h=>(by rw[h] at aQ;cases aQ),fun j bd=>?_⟩;by_cases m:j=i
  ·subst m;exact a4.wpOp ak (D w) ⟨fun _=>l w,H⟩
  ·have ae:=H.2 j (ready_mono bd m);obtain⟨B,n,A,aI⟩:=mem_ready.1 bd;have p:=(mem_ready.1 aQ).1;have C:∀e∈n.after,Region.binds md e=true→e.on≠i:=fun e he O heq=>by
    have ae:=aI e he O;have h0:=p;rw[heq] at ae;rcases Nat.lt_or_ge i listed.size with q|q
    ·simp[q] at h0 ae;rw[h0] at ae;cases ae
    ·simp[Array.getElem?_eq_none q] at ae
   have u:(∀a b,U a b)∨T j=true:=by
    rcases hT with hT|hT
    ·exact .inl hT
    refine .inr ?_
    cases u:T j with
    | true=>rfl
    | false=>
     obtain⟨f,J⟩:=hT j u;have:=CY inv f j J ⟨n,A,aI⟩;rcases Nat.lt_or_ge i listed.size with q|q
     ·simp[q] at p this;rw[p] at this;cases this
     ·simp[Array.getElem?_eq_none q] at this
   have aD:=wpOp_putIf (S:=U w) A (y j n A m B C) (fun cs b=>g i s cs b ak) (fun cs b=>g j n cs b A) hQ a4 ae;have x:∀k ok,ops[k]?=some ok→k≠i→(listed.setIfInBounds j true).getD k true=false→
     (∀e∈ok.after,Region.binds md e=true→e.on≠i)→s.apart ops ok=true:=fun k ok ai F E a9=>by
    refine y k ok ai F ?_ a9;by_cases z:j=k
    ·subst z;exact B
    ·rw[getD_set_ne true z] at E;exact E
   refine wpOp_mono (fun r ac aU=>?_) aD;have d:YieldsIf P ops (U ac) s v r:=aU.1.imp (fun⟨hw,bD⟩=>⟨hw,fun V hV=>bD V (u.elim (fun h=>h _ _) fun h=>t _ _ _ (aU.2.1 h) hV)⟩) id;refine⟨aU.2.1,ao (listed.setIfInBounds j true) r ac (inv.set bd) x (ready_mono aQ (Ne.symm m)) d ?_⟩;rw[Array.setIfInBounds_comm _ _ m];exact aU.2.2
def bW(P:Program)(ops:Array Oper)(Q:Exit→Act→World→Prop)(R:World→World→Prop):List (Nat×Nat)→Act→World→Prop
 | [],a,w=>Q .normal a w
 | (i,0)::rest,a,w=>∃o v,ops[i]?=some o∧YieldsIf P ops (R w) o v a∧bW P ops Q R rest (a.put o.dst v) w
 | (i,3)::rest,a,w=>∃o v,ops[i]?=some o∧YieldsIf P ops (fun _=>True) o v a∧bW P ops Q R rest (a.put o.dst v) w
 | (i,k+1)::rest,a,w=>∃o,ops[i]?=some o∧∀K:Act→World→Prop,(∀r ac,(k=0→R w ac)→bW P ops Q R rest r ac→K r ac)→
   (if Region.wanted o (yielded ops a.tmps)=true then o.wp P a w K Q else K (a.put o.dst undef) w)
def lR(md:Region.Mode)(ops:Array Oper):List (Nat×Nat)→Array Bool→Bool
 | [],listed=>(Region.ready md ops listed).isEmpty
 | (i,0)::rest,listed=>Region.free md ops listed i && (Region.ready md ops listed).contains i && lR md ops rest (listed.setIfInBounds i true)
 | (i,3)::rest,listed=>Region.free md ops listed i && (Region.ready md ops listed).contains i && lR md ops rest (listed.setIfInBounds i true)
 | (i,_+1)::rest,listed=>(Region.ready md ops listed == [i]) && lR md ops rest (listed.setIfInBounds i true)
def nh(e:List (Nat×Nat)):List Nat:=(e.filter fun p=>decide (2=p.2)).map (·.1)
def wK(md:Region.Mode)(ops:Array Oper)(e:List (Nat×Nat)):Bool:=
 Region.noSelect ops && (e.length == ops.size) && (e.all fun p=>decide (p.2≤3)) && (e.all fun p=>decide (p.2=1∨p.2=2∨p.2=3) || (nh e).all fun j=>CX md ops ops.size j p.1) && lR md ops e (Array.replicate ops.size false)
theorem iI(t:∀a b c,R a b→R b c→R a c)(l:∀a,R a a)(g:∀(j:Nat) (o:Oper) cs b,ops[j]?=some o→o.op≠.select cs b)
  (hQ:∀c a d v w,Q (.panic c) (a.put d v) w→Q (.panic c) a w) :
  ∀(e:List (Nat×Nat)) (listed:Array Bool) (a:Act) (w:World),jR md ops listed→lR md ops e listed=true→
   (∀p∈e,p.2=0→∀j,T j=false→∃f,CX md ops f j p.1=true)→(∀p∈e,2=p.2→T p.1=false)→(∀p∈e,p.2≤3)→
   bW P ops Q R e a w→ke P md ops Q R T e.length listed a w
 | [],listed,a,w,_,aN,_,_,_,h=>⟨by simpa[lR] using aN,h⟩
 | (i,0)::rest,listed,a,w,inv,aN,h0,aD,aU,h=>by
  obtain⟨o,v,ak,a4,h⟩:=h;simp only[lR,Bool.and_eq_true] at aN;have aQ:i∈Region.ready md ops listed:=by simpa using aN.1.2
  exact h3 (U:=R) t l l ak g (fun c a w=>hQ c a _ _ w) (.inr (h0 (i,0) (by simp) rfl)) rest.length listed a w inv (Region.free_spec ak aN.1.1) aQ a4
   (iI t l g hQ rest _ _ _ (inv.set aQ) aN.2 (fun p hp=>h0 p (by simp[hp])) (fun p hp=>aD p (by simp[hp])) (fun p hp=>aU p (by simp[hp])) h)
 | (i,3)::rest,listed,a,w,inv,aN,h0,aD,aU,h=>by
  obtain⟨o,v,ak,a4,h⟩:=h;simp only[lR,Bool.and_eq_true] at aN;have aQ:i∈Region.ready md ops listed:=by simpa using aN.1.2
  exact h3 (U:=fun _ _=>True) (fun _ _ _ _ _=>trivial) l (fun _=>trivial) ak g (fun c a w=>hQ c a _ _ w) (.inl fun _ _=>trivial) rest.length listed a w inv (Region.free_spec ak aN.1.1) aQ a4
   (iI t l g hQ rest _ _ _ (inv.set aQ) aN.2 (fun p hp=>h0 p (by simp[hp])) (fun p hp=>aD p (by simp[hp])) (fun p hp=>aU p (by simp[hp])) h)
 | (i,1)::rest,listed,a,w,inv,aN,h0,aD,aU,h=>by
  obtain⟨o,ak,h⟩:=h;simp only[lR,Bool.and_eq_true,beq_iff_eq] at aN;have aQ:i∈Region.ready md ops listed:=by rw[aN.1];simp
  refine⟨fun h0=>(by rw[h0] at aQ;cases aQ),fun j bd=>?_⟩;rw[aN.1] at bd;have m:j=i:=by simpa using bd
  subst m;have s:=h (fun r ac=>(T j=true→R w ac)∧ke P md ops Q R T rest.length (listed.setIfInBounds j true) r ac) fun r ac cg hp=>
   ⟨fun hT=>cg rfl,iI t l g hQ rest _ _ _ (inv.set aQ) aN.2 (fun p hp=>h0 p (by simp[hp])) (fun p hp=>aD p (by simp[hp])) (fun p hp=>aU p (by simp[hp])) hp⟩
  unfold Go.wpOp;simp only[ak];split
  ·rename_i hw;rw[if_pos hw] at s;exact .inl s
  ·rename_i hw;rw[if_neg hw] at s
   exact s
 | (i,2)::rest,listed,a,w,inv,aN,h0,aD,aU,h=>by
  obtain⟨o,ak,h⟩:=h;simp only[lR,Bool.and_eq_true,beq_iff_eq] at aN;have aQ:i∈Region.ready md ops listed:=by rw[aN.1];simp
  refine⟨fun h0=>(by rw[h0] at aQ;cases aQ),fun j bd=>?_⟩;rw[aN.1] at bd;have m:j=i:=by simpa using bd
  subst m;have u:T j=false:=aD (j,2) (by simp) rfl;have s:=h (fun r ac=>(T j=true→R w ac)∧ke P md ops Q R T rest.length (listed.setIfInBounds j true) r ac) fun r ac _ hp=>
   ⟨fun hT=>(by rw[u] at hT;cases hT),iI t l g hQ rest _ _ _ (inv.set aQ) aN.2 (fun p hp=>h0 p (by simp[hp])) (fun p hp=>aD p (by simp[hp])) (fun p hp=>aU p (by simp[hp])) hp⟩
  unfold Go.wpOp;simp only[ak];split
  ·rename_i hw;rw[if_pos hw] at s;exact .inl s
  ·rename_i hw;rw[if_neg hw] at s
   exact s
 | (i,k+4)::rest,listed,a,w,inv,aN,h0,aD,aU,h=>absurd (aU (i,k+4) (by simp)) (by simp)
theorem k3(R:World→World→Prop)(e:List (Nat×Nat)){id:Nat}{a:Act}{w:World}(hm:P.follows .mixedOrders=true)(aN:wK .any ops e=true)
  (l:∀a,R a a) (t:∀a b c,R a b→R b c→R a c) (hQ:∀c a d v w,Q (.panic c) (a.put d v) w→Q (.panic c) a w)
  (h:bW P ops Q R e a w.drew):(Code.region id ops true).wp P Q a w:=by
 simp only[wK,Bool.and_eq_true,beq_iff_eq] at aN;obtain⟨⟨⟨⟨hs,hl⟩,aU⟩,ht⟩,hp⟩:=aN;refine wp_region_any hm (mC (R:=R) (T:=fun j=>!(nh e).contains j) _ _ _ _ ?_);rw[←hl];refine iI t l (Region.noSelect_spec hs) hQ e _ a _ (fun j n _ bd=>?_) (by rw[hl];exact hp) (fun p gN i j bd=>?_) (fun p gN f=>?_) (fun p gN=>?_) h
 ·rw[getD_replicate_false] at bd;cases bd
 ·have ae:=List.all_eq_true.1 ht p gN;rw[i] at ae;have g:j∈nh e:=by simpa using bd
  have aD:((nh e).all fun j=>CX .any ops ops.size j p.1)=true:=by simpa using ae
  exact⟨_,List.all_eq_true.1 aD j g⟩
 ·have:p.1∈nh e:=List.mem_map.2 ⟨p,List.mem_filter.2 ⟨gN,by simpa using f⟩,rfl⟩;simpa using this
 ·exact List.all_eq_true.1 aU p gN |> of_decide_eq_true
theorem bH{i:Nat}{o:Oper}{v:Value}{rest:List (Nat×Nat)}{a:Act}{w:World}(ak:ops[i]?=some o)(hw:Region.wanted o (yielded ops a.tmps)=true)
  (bD:∀V,R w V→(execOp a.eval o).run P V=.ok (.value v) V) (h:bW P ops Q R rest (a.put o.dst v) w):bW P ops Q R ((i,0)::rest) a w:=
 ⟨o,v,ak,.inl ⟨hw,bD⟩,h⟩
theorem ia{i:Nat}{o:Oper}{rest:List (Nat×Nat)}{a:Act}{w:World}(ak:ops[i]?=some o)(hw:Region.wanted o (yielded ops a.tmps)=false)
  (h:bW P ops Q R rest (a.put o.dst undef) w):bW P ops Q R ((i,0)::rest) a w:=
 ⟨o,undef,ak,.inr ⟨hw,rfl⟩,h⟩
theorem bh{i:Nat}{o:Oper}{v:Value}{rest:List (Nat×Nat)}{a:Act}{w:World}(ak:ops[i]?=some o)(hw:Region.wanted o (yielded ops a.tmps)=true)
  (bD:∀V,(execOp a.eval o).run P V=.ok (.value v) V) (h:bW P ops Q R rest (a.put o.dst v) w):bW P ops Q R ((i,3)::rest) a w:=
 ⟨o,v,ak,.inl ⟨hw,fun V _=>bD V⟩,h⟩
theorem dm{i:Nat}{o:Oper}{rest:List (Nat×Nat)}{a:Act}{w:World}(ak:ops[i]?=some o)(hw:Region.wanted o (yielded ops a.tmps)=false)
  (h:bW P ops Q R rest (a.put o.dst undef) w):bW P ops Q R ((i,3)::rest) a w:=
 ⟨o,undef,ak,.inr ⟨hw,rfl⟩,h⟩
theorem aO{i:Nat}{o:Oper}{rest:List (Nat×Nat)}{a:Act}{w:World}(ak:ops[i]?=some o)
  (h:∀K:Act→World→Prop,(∀r ac,R w ac→bW P ops Q R rest r ac→K r ac)→if Region.wanted o (yielded ops a.tmps)=true then o.wp P a w K Q else K (a.put o.dst undef) w) :
  bW P ops Q R ((i,1)::rest) a w:=
 ⟨o,ak,fun K hK=>h K fun r ac cg hp=>hK r ac (fun _=>cg) hp⟩
theorem aq{i:Nat}{o:Oper}{rest:List (Nat×Nat)}{a:Act}{w:World}(ak:ops[i]?=some o)
  (h:∀K:Act→World→Prop,(∀r ac,bW P ops Q R rest r ac→K r ac)→if Region.wanted o (yielded ops a.tmps)=true then o.wp P a w K Q else K (a.put o.dst undef) w) :
  bW P ops Q R ((i,2)::rest) a w:=
 ⟨o,ak,fun K hK=>h K fun r ac hp=>hK r ac (fun h=>absurd h (by decide)) hp⟩
theorem aB{a:Act}{w:World}(h:Q .normal a w):bW P ops Q R [] a w:=h
end
inductive PT where
 | stop
 | free (i:Nat) (rest:PT)
 | held (i:Nat) (rest:PT)
 | pick (is:List Nat) (f:Nat→PT)
section
variable {P:Program} {ops:Array Oper} {Q:Exit→Act→World→Prop} {md:Region.Mode} {R:World→World→Prop}
def cQ(P:Program)(ops:Array Oper)(Q:Exit→Act→World→Prop)(R:World→World→Prop)(tails:List Nat):PT→Act→World→Prop
 | .stop,a,w=>Q .normal a w
 | .free i rest,a,w=>∃o v,ops[i]?=some o∧YieldsIf P ops (fun _=>True) o v a∧cQ P ops Q R tails rest (a.put o.dst v) w
 | .held i rest,a,w=>∃o v,ops[i]?=some o∧YieldsIf P ops (R w) o v a∧cQ P ops Q R tails rest (a.put o.dst v) w
 | .pick is f,a,w=>∀i∈is,∃o,ops[i]?=some o∧∀K:Act→World→Prop,(∀r ac,(tails.contains i=false→R w ac)→cQ P ops Q R tails (f i) r ac→K r ac)→
   (if Region.wanted o (yielded ops a.tmps)=true then o.wp P a w K Q else K (a.put o.dst undef) w)
def ni(md:Region.Mode)(ops:Array Oper):PT→Nat→Array Bool→Bool
 | .stop,n,listed=>n == 0 && (Region.ready md ops listed).isEmpty
 | .free i rest,n,listed=>decide (0<n) && (Region.free md ops listed i && (Region.ready md ops listed).contains i && ni md ops rest (n - 1) (listed.setIfInBounds i true))
 | .held i rest,n,listed=>decide (0<n) && (Region.free md ops listed i && (Region.ready md ops listed).contains i && ni md ops rest (n - 1) (listed.setIfInBounds i true))
 | .pick is f,n,listed=>decide (0<n) && (!is.isEmpty && (Region.ready md ops listed == is) && is.all fun i=>ni md ops (f i) (n - 1) (listed.setIfInBounds i true))
def PT.oi:PT→List Nat
 | .stop=>[]
 | .free _ rest=>rest.oi
 | .held i rest=>i::rest.oi
 | .pick is f=>is.flatMap fun i=>(f i).oi
def xc(md:Region.Mode)(ops:Array Oper)(tails:List Nat)(p:PT):Bool:=
 Region.noSelect ops && (p.oi.all fun i=>tails.all fun j=>CX md ops ops.size j i) && ni md ops p ops.size (Array.replicate ops.size false)
theorem xf(tails:List Nat)(t:∀a b c,R a b→R b c→R a c)(l:∀a,R a a)(g:∀(j:Nat) (o:Oper) cs b,ops[j]?=some o→o.op≠.select cs b)
  (hQ:∀c a d v w,Q (.panic c) (a.put d v) w→Q (.panic c) a w) :
  ∀(p:PT) (n:Nat) (listed:Array Bool) (a:Act) (w:World),jR md ops listed→ni md ops p n listed=true→
   (∀i∈p.oi,∀j∈tails,∃f,CX md ops f j i=true)→cQ P ops Q R tails p a w→ke P md ops Q R (fun j=>!tails.contains j) n listed a w:=by
 intro p
 induction p with
 | stop=>
  intro n listed a w _ aN _ h;simp only[ni,Bool.and_eq_true,beq_iff_eq] at aN;obtain⟨rfl,aN⟩:=aN
  exact⟨by simpa using aN,h⟩
 | free i rest ao=>
  intro n listed a w inv aN aH h;obtain⟨o,v,ak,a4,h⟩:=h;simp only[ni,Bool.and_eq_true,decide_eq_true_eq] at aN;obtain⟨hn,⟨J,hc⟩,aN⟩:=aN;obtain⟨m,rfl⟩:∃m,n=m+1:=⟨n - 1,by omega⟩
  have aQ:i∈Region.ready md ops listed:=by simpa using hc
  exact h3 (U:=fun _ _=>True) (fun _ _ _ _ _=>trivial) l (fun _=>trivial) ak g (fun c a w=>hQ c a _ _ w) (.inl fun _ _=>trivial) m listed a w inv (Region.free_spec ak J) aQ a4
   (ao m _ _ _ (inv.set aQ) aN aH h)
 | held i rest ao=>
  intro n listed a w inv aN aH h;obtain⟨o,v,ak,a4,h⟩:=h;simp only[ni,Bool.and_eq_true,decide_eq_true_eq] at aN;obtain⟨hn,⟨J,hc⟩,aN⟩:=aN;obtain⟨m,rfl⟩:∃m,n=m+1:=⟨n - 1,by omega⟩
  have aQ:i∈Region.ready md ops listed:=by simpa using hc
  refine h3 (U:=R) t l l ak g (fun c a w=>hQ c a _ _ w) (.inr fun j bd=>aH i (by simp[PT.oi]) j (by simpa using bd)) m listed a w inv (Region.free_spec ak J) aQ a4
   (ao m _ _ _ (inv.set aQ) aN (fun i ak=>aH i (by simp[PT.oi,ak])) h)
 | pick is f ao=>
  intro n listed a w inv aN aH h;simp only[ni,Bool.and_eq_true,decide_eq_true_eq,beq_iff_eq] at aN;obtain⟨hn,⟨he,aQ⟩,aN⟩:=aN;obtain⟨m,rfl⟩:∃m,n=m+1:=⟨n - 1,by omega⟩
  by_cases a6:is=[]
  ·subst a6;simp at he
  ·refine⟨fun h0=>absurd (by rw[←aQ];exact h0) a6,fun j bd=>?_⟩;have e:=bd;rw[aQ] at bd;obtain⟨o,ak,h⟩:=h j bd;have s:=h (fun r ac=>((fun j=>!tails.contains j) j=true→R w ac)∧ke P md ops Q R (fun j=>!tails.contains j) m (listed.setIfInBounds j true) r ac) fun r ac cg hp=>
    ⟨fun hT=>cg (by simpa using hT),ao j m _ _ _ (inv.set e) (by simpa using List.all_eq_true.1 aN j bd) (fun i ak=>aH i (by simp only[PT.oi,List.mem_flatMap];exact⟨j,bd,ak⟩)) hp⟩
   unfold Go.wpOp;simp only[ak];split
   ·rename_i hw;rw[if_pos hw] at s;exact .inl s
   ·rename_i hw;rw[if_neg hw] at s;exact s
theorem q3(R:World→World→Prop)(tails:List Nat)(p:PT){id:Nat}{a:Act}{w:World}(hm:P.follows .mixedOrders=true)(aN:xc .any ops tails p=true)
  (l:∀a,R a a) (t:∀a b c,R a b→R b c→R a c) (hQ:∀c a d v w,Q (.panic c) (a.put d v) w→Q (.panic c) a w)
  (h:cQ P ops Q R tails p a w.drew):(Code.region id ops true).wp P Q a w:=by
 simp only[xc,Bool.and_eq_true] at aN;obtain⟨⟨hs,aW⟩,hp⟩:=aN;refine wp_region_any hm (mC (R:=R) (T:=fun j=>!tails.contains j) _ _ _ _ ?_);refine xf tails t l (Region.noSelect_spec hs) hQ p ops.size _ a _ (fun j n _ bd=>?_) hp (fun i ak j bd=>?_) h
 ·rw[getD_replicate_false] at bd;cases bd
 ·have ae:=List.all_eq_true.1 aW i ak;exact⟨_,List.all_eq_true.1 ae j bd⟩
variable {tails:List Nat}
theorem b3{i:Nat}{o:Oper}{v:Value}{rest:PT}{a:Act}{w:World}(ak:ops[i]?=some o)(hw:Region.wanted o (yielded ops a.tmps)=true)
  (bD:∀V,R w V→(execOp a.eval o).run P V=.ok (.value v) V) (h:cQ P ops Q R tails rest (a.put o.dst v) w):cQ P ops Q R tails (.held i rest) a w:=
 ⟨o,v,ak,.inl ⟨hw,bD⟩,h⟩
theorem Ib{i:Nat}{o:Oper}{rest:PT}{a:Act}{w:World}(ak:ops[i]?=some o)(hw:Region.wanted o (yielded ops a.tmps)=false)
  (h:cQ P ops Q R tails rest (a.put o.dst undef) w):cQ P ops Q R tails (.held i rest) a w:=
 ⟨o,undef,ak,.inr ⟨hw,rfl⟩,h⟩
theorem lD{i:Nat}{o:Oper}{v:Value}{rest:PT}{a:Act}{w:World}(ak:ops[i]?=some o)(hw:Region.wanted o (yielded ops a.tmps)=true)
  (bD:∀V,(execOp a.eval o).run P V=.ok (.value v) V) (h:cQ P ops Q R tails rest (a.put o.dst v) w):cQ P ops Q R tails (.free i rest) a w:=
 ⟨o,v,ak,.inl ⟨hw,fun V _=>bD V⟩,h⟩
theorem Ia{i:Nat}{o:Oper}{rest:PT}{a:Act}{w:World}(ak:ops[i]?=some o)(hw:Region.wanted o (yielded ops a.tmps)=false)
  (h:cQ P ops Q R tails rest (a.put o.dst undef) w):cQ P ops Q R tails (.free i rest) a w:=
 ⟨o,undef,ak,.inr ⟨hw,rfl⟩,h⟩
def so(P:Program)(ops:Array Oper)(Q:Exit→Act→World→Prop)(R:World→World→Prop)(tails:List Nat)(i:Nat)(p:PT)(a:Act)(w:World):Prop:=
 ∃o,ops[i]?=some o∧∀K:Act→World→Prop,(∀r ac,(tails.contains i=false→R w ac)→cQ P ops Q R tails p r ac→K r ac)→
   (if Region.wanted o (yielded ops a.tmps)=true then o.wp P a w K Q else K (a.put o.dst undef) w)
theorem aG{i:Nat}{o:Oper}{p:PT}{a:Act}{w:World}(ak:ops[i]?=some o)
  (h:∀K:Act→World→Prop,(∀r ac,R w ac→cQ P ops Q R tails p r ac→K r ac)→if Region.wanted o (yielded ops a.tmps)=true then o.wp P a w K Q else K (a.put o.dst undef) w)
  (hT:tails.contains i=false):so P ops Q R tails i p a w:=⟨o,ak,fun K hK=>h K fun r ac cg=>hK r ac fun _=>cg⟩
theorem cj{i:Nat}{o:Oper}{p:PT}{a:Act}{w:World}(ak:ops[i]?=some o)
  (h:∀K:Act→World→Prop,(∀r ac,cQ P ops Q R tails p r ac→K r ac)→if Region.wanted o (yielded ops a.tmps)=true then o.wp P a w K Q else K (a.put o.dst undef) w)
  (hT:tails.contains i=true):so P ops Q R tails i p a w:=⟨o,ak,fun K hK=>h K fun r ac hp=>hK r ac (fun h=>by rw[hT] at h;cases h) hp⟩
theorem ao{i:Nat}{f:Nat→PT}{a:Act}{w:World}(h:so P ops Q R tails i (f i) a w):cQ P ops Q R tails (.pick [i] f) a w:=fun j bd=>by
 have:j=i:=by simpa using bd
 subst this;exact h
theorem bt{i j:Nat}{f:Nat→PT}{a:Act}{w:World}(h:so P ops Q R tails i (f i) a w)(aD:so P ops Q R tails j (f j) a w):cQ P ops Q R tails (.pick [i,j] f) a w:=fun k ai=>by
 simp only[List.mem_cons,List.not_mem_nil,or_false] at ai;rcases ai with rfl|rfl
 ·exact h
 ·exact aD
theorem cB{a:Act}{w:World}(h:Q .normal a w):cQ P ops Q R tails .stop a w:=h
theorem lE{rest:PT}{aa:Nat→Act}{C:Nat→World→Prop}{G:Prop}(h:(∀g V,C g V→cQ P ops Q R tails rest (aa g) V)→G)(key:∀g V,C g V→cQ P ops Q R tails rest (aa g) V):G:=h key
end
theorem ad{p:Prop}(h:p):LR p:=h
theorem DA{a b:Int}{k:IntKind}(h:a=b):Value.int k a=Value.int k b:=by rw[h]
theorem ret_int{a b:Int}{k:IntKind}(h:a=b):Ending.returned (.int k a)=.returned (.int k b):=by rw[h]
theorem ret_bool{a b:Bool}(h:a=b):Ending.returned (.bool a)=.returned (.bool b):=by rw[h]
theorem a1{α:Type}{l:List α}{k:Nat}{x:α}(h:l[k]?=some x):l.take (k+1)=l.take k++[x]:=by
 rw[List.take_add_one,h];rfl
theorem Ff(x y:Int):(if y > x then y else x)=max x y:=by
 by_cases h:x≤y<;>simp[Int.max_def,h]<;>omega
theorem Fg(x y:Int):(if y<x then y else x)=min x y:=by
 by_cases h:x≤y<;>simp[Int.min_def,h]<;>omega
theorem gi(P:Program)(w:World)(a:Array TypeId)(t:TypeId)(k F:IntKind)(x y:Int):(Builtin.max_ a t #[.int k x,.int F y]).run P w=.ok (.int k (max x y)) w:=by
 rw[run_max_int2,Ff]
theorem gj(P:Program)(w:World)(a:Array TypeId)(t:TypeId)(k F:IntKind)(x y:Int):(Builtin.min_ a t #[.int k x,.int F y]).run P w=.ok (.int k (min x y)) w:=by
 rw[run_min_int2,Fg]
theorem JX{W aP:World}(O:Below W.heap.size W aP):(∀b o,b<W.heap.size→aP.cell? ⟨b,o,none⟩=W.cell? ⟨b,o,none⟩)∧(∀b o,b<W.heap.size→aP.frozen? ⟨b,o,none⟩=W.frozen? ⟨b,o,none⟩):=
 ⟨fun b o h=>O.cell (p:=⟨b,o,none⟩) h,fun b o h=>O.frozen (p:=⟨b,o,none⟩) h⟩
theorem dA{B:Nat}{a w:World}(h:Below B a w)(n:Nat):Below B a (w.drewN n):=⟨h.os,h.tape,h.output,h.size,h.block⟩
def cK{α:Type}(E:World→Nat→α→List Value→Prop)(sz:Nat)(w:World)(B:Nat)(A:LP)(n:Nat)(l:List α):Prop:=
 l.length=n∧(0<n→∃b o,A=some ⟨b,o,none⟩∧b<B∧∀k x,l[k]?=some x→∃cs:List Value,E w B x cs∧cs.length=sz∧∀j v,cs[j]?=some v→w.cell? ⟨b,o+k*sz+j,none⟩=some v)
section
variable {α:Type} {E:World→Nat→α→List Value→Prop} {sz:Nat} {w ac:World} {B q n:Nat} {A:LP} {l:List α}
theorem cK.bN(A:LP):cK E sz w B A 0 ([]:List α):=⟨rfl,fun h=>absurd h (by omega)⟩
theorem cK.ai(h:cK E sz w B A n l)(O:Below B w ac)(aE:∀x cs,E w B x cs→E ac B x cs):cK E sz ac B A n l:=by
 refine⟨h.1,fun hn=>?_⟩;obtain⟨b,o,bp,al,hc⟩:=h.2 hn;refine⟨b,o,bp,al,fun k x hx=>?_⟩;obtain⟨cs,he,hl,bd⟩:=hc k x hx;exact⟨cs,aE _ _ he,hl,fun j v bD=>(O.cell (p:=⟨b,_,none⟩) al).trans (bd j v bD)⟩
theorem cK.more(h:cK E sz w B A n l)(aN:B≤q)(aE:∀x cs,E w B x cs→E w q x cs):cK E sz w q A n l:=by
 refine⟨h.1,fun hn=>?_⟩;obtain⟨b,o,bp,al,hc⟩:=h.2 hn;refine⟨b,o,bp,by omega,fun k x hx=>?_⟩;obtain⟨cs,he,hl,bd⟩:=hc k x hx;exact⟨cs,aE _ _ he,hl,bd⟩
end
def EF{α:Type}(f:α→List Value):World→Nat→α→List Value→Prop:=fun _ _ x cs=>cs=f x
section
variable {α:Type} {f:α→List Value} {sz:Nat} {w ac:World} {B q n:Nat} {A:LP} {l:List α}
theorem cK.gf(h:cK (EF f) sz w B A n l)(O:Below B w ac):cK (EF f) sz ac B A n l:=h.ai O fun _ _ h=>h
theorem cK.IU(h:cK (EF f) sz w B A n l)(aN:B≤q):cK (EF f) sz w q A n l:=h.more aN fun _ _ h=>h
theorem cK.cS(h:cK (EF f) sz w B A n l)(O:Below B w ac)(aN:B≤q):cK (EF f) sz ac q A n l:=(h.gf O).IU aN
theorem cK.IB(h:cK (EF f) sz w B A n l){k:Nat}(ai:k<n) :
  ∃b o x,A=some ⟨b,o,none⟩∧b<B∧l[k]?=some x∧(f x).length=sz∧∀j v,(f x)[j]?=some v→w.cell? ⟨b,o+k*sz+j,none⟩=some v:=by
 obtain⟨b,o,bp,O,hc⟩:=h.2 (by omega);have hm:l[k]?=some (l[k]'(by have:=h.1;omega)):=List.getElem?_eq_getElem _;obtain⟨cs,he,hl,bd⟩:=hc k _ hm;rw[EF] at he;subst he;exact⟨b,o,_,bp,O,hm,hl,bd⟩
theorem cK.some_(h:cK (EF f) sz w B A n l)(ai:0<n):∃b o,A=some ⟨b,o,none⟩∧b<B:=by
 obtain⟨b,o,bp,O,_⟩:=h.2 ai;exact⟨b,o,bp,O⟩
end
theorem fD{α:Type}(f:α→List Value)(sz:Nat):∀(l:List α),(∀x∈l,(f x).length=sz)→∀k x,l[k]?=some x→∀j,j<sz→(l.flatMap f)[k*sz+j]?=(f x)[j]?
 | [],_,k,x,h,_,_=>by simp at h
 | a::l,hs,0,x,h,j,bd=>by
  have aW:=hs a (by simp);simp only[List.getElem?_cons_zero,Option.some.injEq] at h;subst h;simp only[List.flatMap_cons,Nat.zero_mul,Nat.zero_add]
  rw[List.getElem?_append_left (by omega)]
 | a::l,hs,k+1,x,h,j,bd=>by
  have aW:=hs a (by simp);simp only[List.getElem?_cons_succ] at h;have ao:=fD f sz l (fun y a4=>hs y (by simp[a4])) k x h j bd;simp only[List.flatMap_cons];rw[List.getElem?_append_right (by rw[aW,Nat.succ_mul];omega),aW,←ao];congr 1
  rw[Nat.succ_mul];omega
theorem gb{α:Type}(f:α→List Value)(sz:Nat)(l:List α)(hs:∀x∈l,(f x).length=sz):(l.flatMap f).length=l.length*sz:=by
 induction l with
 | nil=>simp
 | cons a l ao=>
  rw[List.flatMap_cons,List.length_append,hs a (by simp),ao (fun x hx=>hs x (by simp[hx])),List.length_cons,Nat.succ_mul];omega
theorem bx{w:World}{base:Nat}{e:TypeId}{sz:Nat}{v:Value}{n:Nat}{xs:List Value}(h:w.ownsRow base e sz v n xs) :
  ∃A c,v=.slice A n c∧n≤c∧c≤maxLen∧(A=none→n=0∧c=0)∧∀k,A=some k→∃g,k=⟨g,0,none⟩∧base≤g∧g<w.heap.size:=by
 rcases h.2 with⟨rfl,rfl⟩|⟨g,cap,cur,rfl,O,aK,hn,hc,_⟩
 ·exact⟨none,0,rfl,Nat.le_refl _,by simp,fun _=>⟨rfl,rfl⟩,fun _ h=>nomatch h⟩
 ·exact⟨_,_,rfl,hn,hc,(fun h=>nomatch h),fun k h=>(by injection h with h;exact⟨g,h.symm,O,(Array.getElem?_eq_some_iff.1 aK).1⟩)⟩
theorem g6{α:Type}{f:α→List Value}{w:World}{base:Nat}{e:TypeId}{sz:Nat}{A:LP}{n c:Nat}{l:List α}
  (h:w.ownsRow base e sz (.slice A n c) n (l.flatMap f)) (hs:∀x∈l,(f x).length=sz) (hl:l.length=n):cK (EF f) sz w w.heap.size A n l:=by
 refine⟨hl,fun hn=>?_⟩;rcases h.2 with⟨bD,h0⟩|⟨g,cap,cur,bD,_,aK,aI,_,T,a⟩
 ·omega
 ·injection bD with bp _ _;subst bp;refine⟨g,0,rfl,(Array.getElem?_eq_some_iff.1 aK).1,fun k x hx=>⟨f x,rfl,hs x (List.mem_of_getElem? hx),fun j v bd=>?_⟩⟩;have u:j<sz:=by
   have:=hs x (List.mem_of_getElem? hx);have:=(List.getElem?_eq_some_iff.1 bd).1;omega
  have aW:k<l.length:=(List.getElem?_eq_some_iff.1 hx).1;have cn:=fD f sz l hs k x hx j u;rw[bd,←a,List.getElem?_take] at cn;split at cn
  ·rw[cell_of_row w g _ cur e (0,0) aK,Nat.zero_add];simpa using cn
  ·cases cn
theorem y1{w ac:World}{base B:Nat}{e:TypeId}{sz:Nat}{v:Value}{n:Nat}{xs:List Value}(h:w.ownsRow base e sz v n xs)(O:Below B w ac)(aN:∀g,v.ownBlock=some g→g<B):ac.ownsRow base e sz v n xs:=by
 refine⟨h.1,?_⟩;rcases h.2 with aD|⟨g,cap,cur,rfl,j,aK,rest⟩
 ·exact .inl aD
 ·exact .inr ⟨g,cap,cur,rfl,j,(O.block g (aN g rfl)).trans aK,rest⟩
theorem bT{w ac:World}{base:Nat}{e:TypeId}{sz:Nat}{v:Value}{n:Nat}{xs:List Value}(h:w.ownsRow base e sz v n xs)(O:Below w.heap.size w ac):ac.ownsRow base e sz v n xs:=
 y1 h O fun g aK=>(h.lt g aK).2
theorem h9{w:World}{base:Nat}{e:TypeId}{sz:Nat}{A:LP}{n c:Nat}{xs:List Value}(h:w.ownsRow base e sz (.slice A n c) n xs)(hn:0<n) :
  ∃g,A=some ⟨g,0,none⟩∧base≤g∧g<w.heap.size∧(∀j u,xs[j]?=some u→w.cell? ⟨g,j,none⟩=some u)∧(∀j,w.frozen? ⟨g,j,none⟩=false)∧
   ∀j u,j<n*sz→(w.setCell ⟨g,j,none⟩ u).ownsRow base e sz (.slice A n c) n (xs.set j u):=by
 rcases h.2 with⟨bD,h0⟩|⟨g,cap,cur,bD,O,aK,aI,v,T,a⟩
 ·omega
 ·injection bD with bp _ hc;subst bp hc;refine⟨g,rfl,O,(Array.getElem?_eq_some_iff.1 aK).1,fun j u hu=>?_,fun j=>?_,fun j u bd=>⟨by rw[List.length_set];exact h.1,.inr ⟨g,c,cur.setIfInBounds j u,rfl,O,?_,aI,v,by simpa using T,?_⟩⟩⟩
  ·rw[←a,List.getElem?_take] at hu;split at hu
   ·rw[cell_of_row w g j cur e (0,0) aK];simpa using hu
   ·cases hu
  ·simp[World.frozen?,aK]
  ·simp[World.setCell,Array.getElem?_modify,aK]
  ·rw[←a,Array.toList_setIfInBounds,List.take_set]
theorem jZ{α:Type}(f:α→List Value)(sz:Nat):∀(l:List α),(∀x∈l,(f x).length=sz)→∀k x,l[k]?=some x→∀j u y,j<sz→(f x).set j u=f y→(l.flatMap f).set (k*sz+j) u=(l.set k y).flatMap f
 | [],_,k,x,h,_,_,_,_,_=>by simp at h
 | a::l,hs,0,x,h,j,u,y,bd,a4=>by
  have aW:=hs a (by simp);simp only[List.getElem?_cons_zero,Option.some.injEq] at h;subst h;simp only[List.flatMap_cons,Nat.zero_mul,Nat.zero_add,List.set_cons_zero]
  rw[List.set_append_left _ _ (by omega),a4]
 | a::l,hs,k+1,x,h,j,u,y,bd,a4=>by
  have aW:=hs a (by simp);simp only[List.getElem?_cons_succ] at h;have ao:=jZ f sz l (fun y a4=>hs y (by simp[a4])) k x h j u y bd a4;simp only[List.flatMap_cons,List.set_cons_succ];rw[List.set_append_right _ _ (by rw[aW,Nat.succ_mul];omega),aW,←ao];congr 2
  rw[Nat.succ_mul];omega
def Src(w:World)(sz:Nat)(A:LP)(m:Nat)(news:List Value):Prop:=
 news.length=m*sz∧(∀u∈news,u.oneCell'=true)∧(0<m→∃b o,A=some ⟨b,o,none⟩∧∀j u,news[j]?=some u→w.cell? ⟨b,o+j,none⟩=some u)
theorem Src.one{w:World}{b:Nat}{u:Value}(h:w.cell? ⟨b,0,none⟩=some u)(ae:u.oneCell'=true):Src w 1 (some ⟨b,0,none⟩) 1 [u]:=
 ⟨rfl,by simpa using ae,fun _=>⟨b,0,rfl,fun j v bd=>by
  cases j with
  | zero=>simp at bd;subst bd;exact h
  | succ j=>simp at bd⟩⟩
theorem Src.block{w:World}{g:Nat}{e:TypeId}{xs:Array Value}{sz:Nat}(aK:w.heap[g]?=some (.cells xs e (0,0)))(m:Nat)(hm:xs.size=m*sz)(ae:∀u∈xs.toList,u.oneCell'=true) :
  Src w sz (some ⟨g,0,none⟩) m xs.toList:=
 ⟨by simpa using hm,ae,fun _=>⟨g,0,rfl,fun j u bd=>by
  rw[Nat.zero_add,cell_of_row w g j xs e (0,0) aK];simpa using bd⟩⟩
theorem Src.ov{α:Type}{f:α→List Value}{sz:Nat}{w:World}{B n:Nat}{A:LP}{l:List α}(h:cK (EF f) sz w B A n l)(hs:∀x∈l,(f x).length=sz)(ae:∀x∈l,∀u∈f x,u.oneCell'=true)(ba:0<sz) :
  Src w sz A n (l.flatMap f):=by
 refine⟨by rw[gb f sz l hs,h.1],fun u hu=>?_,fun hn=>?_⟩
 ·obtain⟨x,hx,hu⟩:=List.mem_flatMap.1 hu;exact ae x hx u hu
 ·obtain⟨b,o,bp,_,hc⟩:=h.2 hn;refine⟨b,o,bp,fun j u bd=>?_⟩;have bR:=(List.getElem?_eq_some_iff.1 bd).1;rw[gb f sz l hs] at bR;have aW:j / sz<l.length:=by rw[Nat.div_lt_iff_lt_mul ba];exact bR
  have hx:l[j / sz]?=some (l[j / sz]'aW):=List.getElem?_eq_getElem aW;have d:=Nat.mod_lt j ba;have a:j / sz*sz+j % sz=j:=Nat.div_add_mod' j sz;have cn:=fD f sz l hs _ _ hx (j % sz) d;rw[a,bd] at cn;obtain⟨cs,he,_,c⟩:=hc _ _ hx;rw[EF] at he;subst he;have:=c _ _ cn.symm
  rwa [Nat.add_assoc,a] at this
def ca(P:Program)(t e:TypeId)(z:Value)(size bytes:Nat):Prop:=
 ∃i,P.underlying t=some (.slice e)∧P.info? e=some i∧i.zero=some z∧i.size=size∧i.bytes=bytes∧z.cells.size=size∧0<size
theorem ca.mk'{P:Program}{t e:TypeId}{z:Value}{size bytes:Nat}(ht:P.underlying t=some (.slice e))(ak:(P.info? e).map (fun i=>(i.zero,i.size,i.bytes))=some (some z,size,bytes))(ba:z.cells.size=size)(h0:0<size):ca P t e z size bytes:=by
 obtain⟨i,ae,aD,aU,a1⟩:=info_parts ak;exact⟨i,ht,ae,aD,aU,a1,ba,h0⟩
section
variable {P:Program} (w:World)
theorem uR(base:Nat)(t ty e:TypeId)(i:TypeInfo)(size:Nat)(ht:P.underlying t=some (.slice e))(ak:P.info? e=some i)
  (v:Value) (n:Nat) (xs:List Value) (ax:w.ownsRow base e size v n xs) (c:Nat):(Builtin.append_ #[t,t] ty #[v,.slice none 0 c]).run P w=.ok v w:=by
 rcases ax.2 with⟨rfl,rfl⟩|⟨g,cap,cur,rfl,_,_,aI,_⟩
 ·simp[Builtin.append_,run_underlying ht,sizeOf,typeInfo,ak,Builtin.lenOf,Builtin.firstCells]
 ·simp[Builtin.append_,run_underlying ht,sizeOf,typeInfo,ak,Builtin.lenOf,Builtin.firstCells,aI,storeCells]
theorem FL{t e:TypeId}{z:Value}{size bytes:Nat}(bp:ca P t e z size bytes)(base:Nat)(ty:TypeId)(v:Value)(n:Nat)(xs:List Value)(ax:w.ownsRow base e size v n xs)
  (A:LP) (m c:Nat) (news:List Value) (hs:Src w size A m news) (y:(n+m)*bytes≤140737488355328) (C:n+m≤140737488355328) (r:base≤w.heap.size) (d:A=none→m=0) :
  ∃G ac,(Builtin.append_ #[t,t] ty #[v,.slice A m c]).run P w=.ok G ac∧ac.ownsRow base e size G (n+m) (xs++news)∧w.grownBy ac v.ownBlock∧
   (G.ownBlock=v.ownBlock∨G.ownBlock=some w.heap.size):=by
 obtain⟨i,ht,ak,ba,a,S,bB,U⟩:=bp;rcases A with _|k
 ·have hm:=d rfl;subst hm;have hn:news=[]:=List.eq_nil_of_length_eq_zero (by simpa using hs.1);subst hn;exact⟨v,w,uR w base t ty e i size ht ak v n xs ax c,by simpa using ax,World.grownBy.refl w _,.inl rfl⟩
 ·have aY:∀j u,news[j]?=some u→w.cell? (k.add j)=some u:=by
   intro j u hu;rcases Nat.eq_zero_or_pos m with h0|h0
   ·subst h0;have hn:news=[]:=List.eq_nil_of_length_eq_zero (by simpa using hs.1);subst hn;simp at hu
   ·obtain⟨b,o,h,hc⟩:=hs.2.2 h0;injection h with h;subst h;have:=hc j u hu;by_cases bd:j=0
    ·subst bd;simpa[Addr.add] using this
    ·simpa[Addr.add,bd] using this
  obtain⟨G,ac,g,aD,aU,_,cd⟩:=run_append_own_at (P:=P) w base t ty e i z size bytes ht ak ba a S bB U v n xs ax k m c news hs.1 aY hs.2.1 (by simp only[maxLen];omega) y r;exact⟨G,ac,g,aD,aU,cd⟩
theorem kf{o:Oper}{a:Act}{K:Act→World→Prop}{Q:Exit→Act→World→Prop}{t e:TypeId}{z:Value}{size bytes:Nat}(bp:ca P t e z size bytes)(s x:Operand)
  (bl:o.op=.call {callee:=.builtin .append,args:=#[s,x],argTypes:=#[t,t]})
  (base:Nat) (v:Value) (n:Nat) (xs:List Value) (hs:a.eval s=v) (ax:w.ownsRow base e size v n xs)
  (A:LP) (m c:Nat) (news:List Value) (hx:a.eval x=.slice A m c) (aQ:Src w size A m news)
  (y:(n+m)*bytes≤140737488355328) (C:n+m≤140737488355328) (r:base≤w.heap.size) (d:A=none→m=0)
  (h:∀G ac,ac.ownsRow base e size G (n+m) (xs++news)→w.grownBy ac v.ownBlock→(G.ownBlock=v.ownBlock∨G.ownBlock=some w.heap.size)→K (a.put o.dst G) ac):o.wp P a w K Q:=by
 obtain⟨G,ac,g,aD,aU,a1⟩:=FL (P:=P) w bp base o.type v n xs ax A m c news aQ y C r d;unfold Oper.wp execOp;simp only[bl,resolve,invoke,builtin,Sem.run_bind,Sem.run_pure,Result.andThen_ok,List.map_toArray,List.map_cons,List.map_nil,hs,hx,g];exact h G ac aD aU a1
theorem qZ{ops:Array Oper}{rest:List Oper}{o:Oper}{a:Act}{Q:Exit→Act→World→Prop}{t e:TypeId}{z:Value}{size bytes:Nat}(bp:ca P t e z size bytes)(i:o.guard=none)(s x:Operand)
  (bl:o.op=.call {callee:=.builtin .append,args:=#[s,x],argTypes:=#[t,t]})
  (base:Nat) (v:Value) (n:Nat) (xs:List Value) (hs:a.eval s=v) (ax:w.ownsRow base e size v n xs)
  (A:LP) (m c:Nat) (news:List Value) (hx:a.eval x=.slice A m c) (aQ:Src w size A m news)
  (y:(n+m)*bytes≤140737488355328) (C:n+m≤140737488355328) (r:base≤w.heap.size) (d:A=none→m=0)
  (h:∀G ac,ac.ownsRow base e size G (n+m) (xs++news)→w.grownBy ac v.ownBlock→(G.ownBlock=v.ownBlock∨G.ownBlock=some w.heap.size)→wpList P ops Q rest (a.put o.dst G) ac):wpList P ops Q (o::rest) a w:=
 wpList_plain i fun _ hK=>kf w bp s x bl base v n xs hs ax A m c news hx aQ y C r d fun G ac aD aU a1=>hK _ _ (h G ac aD aU a1)
end
theorem bV{P:Program}(S:World){ops:Array Oper}{rest:List Oper}{o:Oper}{a:Act}{Q:Exit→Act→World→Prop}{t e:TypeId}{z:Value}{size bytes:Nat}(bp:ca P t e z size bytes)(i:o.guard=none)(s x:Operand)
  (bl:o.op=.call {callee:=.builtin .append,args:=#[s,x],argTypes:=#[t,t]})
  (base:Nat) (v:Value) (n:Nat) (xs:List Value) (cs:Array Value) (hs:a.eval s=v) (ax:S.ownsRow base e size v n xs)
  (hx:a.eval x=.slice (some ⟨S.heap.size,0,none⟩) 1 1) (T:cs.size=size) (ae:∀u∈cs.toList,u.oneCell'=true)
  (y:(n+1)*bytes≤140737488355328) (C:n+1≤140737488355328) (r:base≤S.heap.size)
  (h:∀G ac,ac.ownsRow base e size G (n+1) (xs++cs.toList)→S.grownBy ac v.ownBlock→(G.ownBlock=v.ownBlock∨G.ownBlock=some (S.heap.size+1))→wpList P ops Q rest (a.put o.dst G) ac):wpList P ops Q (o::rest) a (S.alloc (.cells cs e)):=by
 refine qZ _ bp i s x bl base v n xs hs (ax.alloc _) _ 1 1 cs.toList hx (Src.block (heap_alloc_new S _) 1 (by omega) ae) y C (by simp;omega) (fun h=>nomatch h) fun G ac aD aU a1=>?_;refine h G ac aD ⟨aU.os,aU.tape,aU.output,by have:=aU.size;simp at this;omega,fun k ai a6=>(aU.block k (by simp;omega) a6).trans (Below.heap_alloc S _ k ai)⟩ ?_;simpa using a1
theorem Src.on{w ac:World}{sz m:Nat}{A:LP}{news:List Value}(h:Src w sz A m news)(O:Below w.heap.size w ac):Src ac sz A m news:=by
 refine⟨h.1,h.2.1,fun hm=>?_⟩;obtain⟨b,o,bp,hc⟩:=h.2.2 hm;refine⟨b,o,bp,fun j u bd=>?_⟩;have c:=hc j u bd;exact(O.cell (p:=⟨b,o+j,none⟩) (World.block_lt_of_cell? w _ c)).trans c
theorem jc{P:Program}(S:World){ops:Array Oper}{rest:List Oper}{o:Oper}{a:Act}{Q:Exit→Act→World→Prop}{t e:TypeId}{z:Value}{size bytes:Nat}(bp:ca P t e z size bytes)(i:o.guard=none)(s x:Operand)
  (bl:o.op=.call {callee:=.builtin .append,args:=#[s,x],argTypes:=#[t,t]})
  (hs:a.eval s=.slice (some ⟨S.heap.size,0,none⟩) 0 0) (A:LP) (m c:Nat) (news:List Value) (hx:a.eval x=.slice A m c) (aQ:Src S size A m news)
  (y:m*bytes≤140737488355328) (C:m≤140737488355328) (d:A=none→m=0)
  (h:∀I aA ac,ac.ownsRow S.heap.size e size (.slice I m aA) m news→Below S.heap.size S ac→wpList P ops Q rest (a.put o.dst (.slice I m aA)) ac):wpList P ops Q (o::rest) a (S.alloc (.cells #[] e)):=by
 have ax:(S.alloc (.cells #[] e)).ownsRow S.heap.size e size (.slice (some ⟨S.heap.size,0,none⟩) 0 0) 0 []:=World.ownsRow_made S #[] 0 (Nat.le_refl _) (Nat.zero_le _) (by simp);refine qZ _ bp i s x bl S.heap.size _ 0 [] hs ax A m c news hx (aQ.on ((Below.refl _ _).alloc (Nat.le_refl _) _)) (by rw[Nat.zero_add];exact y) (by omega) (by simp) d fun G ac aD aU a1=>?_;simp only[Nat.zero_add,List.nil_append] at aD;have O:Below S.heap.size S ac:=((Below.refl _ _).alloc (Nat.le_refl _) _).grown aU (by simp) (by simp[Value.ownBlock]);obtain⟨I,aA,rfl,_⟩:=bx aD;exact h I aA ac aD O
theorem dk{B:Nat}{a w ac:World}{base:Nat}{e:TypeId}{sz:Nat}{v:Value}{n:Nat}{xs:List Value}(h:Below B a w)(ax:w.ownsRow base e sz v n xs)(aK:w.grownBy ac v.ownBlock)(aN:B≤base)(b7:B≤w.heap.size):Below B a ac:=
 h.grown aK b7 fun k ai=>Nat.le_trans aN (ax.lt k ai).1
section
variable {P:Program} {t e:TypeId} {z:Value} {size bytes:Nat}
theorem run_mk(bp:ca P t e z size bytes)(kl kc:IntKind)(n:Nat)(O:bytes*n≤281474976710656)(C:n≤281474976710656)(w:World) :
  (Instr.makeSlice t (.int kl (n:Int)) (.int kc (n:Int))).run P w=.ok (.slice (some ⟨w.heap.size,0,none⟩) n n) (w.alloc (.cells (madeCells z.cells (n*size)) e)):=by
 obtain⟨i,ht,ak,ba,a,S,bB,U⟩:=bp;have b:(i.bytes:Int)*(n:Int)≤281474976710656:=by
  have h:((i.bytes*n:Nat):Int)≤281474976710656:=by rw[S];omega
  rwa [Int.natCast_mul] at h
 have aQ:=run_make (P:=P) w t e i z ht ak ba kl kc n n (by omega) (by omega) b (by omega);simp only[Int.toNat_natCast] at aQ;rw[aQ,a]
theorem yT{α:Type}{f:α→List Value}{x:α}{zc:Array Value}{sz:Nat}(ba:zc.toList=f x)(hs:(f x).length=sz)(h0:0<sz)(n:Nat):(madeCells zc (n*sz)).toList=(List.replicate n x).flatMap f:=by
 have bB:zc.size=sz:=by rw[←Array.length_toList,ba,hs]
 apply List.ext_getElem?
 intro j;by_cases bd:j<n*sz
 ·have ai:j / sz<n:=by rw[Nat.div_lt_iff_lt_mul h0];exact bd
  have hm:=Nat.mod_lt j h0;have hx:(List.replicate n x)[j / sz]?=some x:=by rw[List.getElem?_replicate,if_pos ai]
  have:=fD f sz (List.replicate n x) (fun y a4=>by rw[(List.mem_replicate.1 a4).2];exact hs) _ _ hx _ hm;rw[Nat.div_add_mod'] at this;rw[this,←ba];have a9:j % zc.size<zc.size:=by rw[bB];exact hm
  simp only[madeCells,Array.getElem?_toList,Array.getElem?_map,Array.getElem?_range,bd,if_pos,Option.map_some];rw[←bB,getElem!_pos zc _ a9,Array.getElem?_eq_getElem a9]
 ·rw[List.getElem?_eq_none (by rw[Array.length_toList,size_madeCells];omega),List.getElem?_eq_none (by rw[gb f sz _ (fun y a4=>by rw[(List.mem_replicate.1 a4).2];exact hs),List.length_replicate];omega)]
theorem DT{α:Type}{f:α→List Value}{x:α}{zc:Array Value}{sz:Nat}(ba:zc.toList=f x)(hs:(f x).length=sz)(h0:0<sz)(n:Nat)(hn:n≤281474976710656){w:World}{base:Nat}(O:base≤w.heap.size) :
  (w.alloc (.cells (madeCells zc (n*sz)) e)).ownsRow base e sz (.slice (some ⟨w.heap.size,0,none⟩) n n) n ((List.replicate n x).flatMap f):=by
 rw[←yT ba hs h0 n];exact World.ownsRow_lit w _ n O (by unfold maxLen;omega) (size_madeCells _ _)
end
def b5(x:Int):List Value:=[.int .i64 x]
def oF(x:ByteArray):List Value:=[.string x]
theorem cK.int{w:World}{B n:Nat}{A:LP}{l:List Int}(h:cK (EF b5) 1 w B A n l){k:Nat}(ai:k<n) :
  ∃b o x,A=some ⟨b,o,none⟩∧b<B∧l[k]?=some x∧w.cell? ⟨b,o+k,none⟩=some (.int .i64 x):=by
 obtain⟨b,o,x,bp,O,hx,_,hc⟩:=h.IB ai;have:=hc 0 _ rfl;simp only[Nat.mul_one,Nat.add_zero] at this;exact⟨b,o,x,bp,O,hx,this⟩
theorem cK.str{w:World}{B n:Nat}{A:LP}{l:LQ}(h:cK (EF oF) 1 w B A n l){k:Nat}(ai:k<n) :
  ∃b o x,A=some ⟨b,o,none⟩∧b<B∧l[k]?=some x∧w.cell? ⟨b,o+k,none⟩=some (.string x):=by
 obtain⟨b,o,x,bp,O,hx,_,hc⟩:=h.IB ai;have:=hc 0 _ rfl;simp only[Nat.mul_one,Nat.add_zero] at this;exact⟨b,o,x,bp,O,hx,this⟩
theorem Dn(l:List Int):l.flatMap b5=l.map (Value.int .i64):=by
 induction l with
 | nil=>rfl
 | cons a l ao=>rw[List.flatMap_cons,ao];rfl
theorem ey(l:List Int)(x:Int):(l++[x]).flatMap b5=l.flatMap b5++[.int .i64 x]:=by
 rw[List.flatMap_append];rfl
theorem g5(k:IntKind)(x:Int):∀u∈(#[Value.int k x]:Array Value).toList,u.oneCell'=true:=by
 intro u hu;simp at hu;subst hu;rfl
theorem iA(l:List Int):∀x∈l,(b5 x).length=1:=fun _ _=>rfl
theorem row_slr{k:IntKind}{w:World}{a:LP}{len cap:Nat}{b:List Int}
  (h:(a=none∧len=0∧cap=0∧b=[])∨∃x,a=some x∧len≤cap∧cap≤maxLen∧b.length=cap∧(∀i,i<b.length→w.cell? (x.add i)=some (.int k (b.getD i 0)))∧∀n∈b,(Lit.int k n).wf=true) (ai:k=.i64) :
  cK (EF b5) 1 w w.heap.size a len (b.take len):=by
 subst ai;rcases h with⟨rfl,rfl,rfl,rfl⟩|⟨x,rfl,aK,_,ba,hc,_⟩
 ·exact cK.bN _
 ·refine⟨by simp;omega,fun hn=>?_⟩;have h0:=hc 0 (by omega);have hx:x.spot=none:=by
   have ae:w.cell? x=some (.int .i64 (b.getD 0 0)):=by simpa[Addr.add] using h0
   cases hs:x.spot with
   | none=>rfl
   | some s=>
    rw[World.cell?] at ae;split at ae
    ·rw[hs] at ae;simp at ae
    ·cases ae
  have aO:=World.block_lt_of_cell? w _ h0;refine⟨x.block,x.off,by rw[←hx],by simpa[Addr.add] using aO,fun j v bd=>⟨b5 v,rfl,rfl,fun i u hu=>?_⟩⟩;have bR:=(List.getElem?_eq_some_iff.1 bd).1;rw[List.length_take] at bR;have c:=hc j (by omega);rw[List.getElem?_take] at bd;split at bd
  ·have bD:b.getD j 0=v:=by rw[List.getD_eq_getElem?_getD,bd];rfl
   rw[bD] at c;have ak:i=0∧u=.int .i64 v:=by
    cases i with
    | zero=>simp[b5] at hu;exact⟨rfl,hu.symm⟩
    | succ i=>simp[b5] at hu
   obtain⟨rfl,rfl⟩:=ak;have aW:x.add j=⟨x.block,x.off+j*1+0,none⟩:=by
    rw[Nat.mul_one,Nat.add_zero];unfold Addr.add;split
    ·rename_i b9;rw[b9,Nat.add_zero,←hx]
    ·rfl
   rw[aW] at c;exact c
  ·cases bd
theorem de:ca prog 22 3 (.int .i64 0) 1 8:=ca.mk' Tryz.underlying22 (by kernel_rfl) rfl (by omega)
inductive D where
 | i (n:Int)
 | b (x:Bool)
 | s (x:ByteArray)
 | st (l:List D)
 | sl (l:List D)
mutual
def D.rep(w:World)(P:Nat→Prop):D→List Value→Prop
 | .i n=>fun cs=>cs=[.int .i64 n]
 | .b x=>fun cs=>cs=[.bool x]
 | .s x=>fun cs=>cs=[.string x]
 | .st l=>fun cs=>D.aJ w P l cs
 | .sl l=>fun cs=>∃A c,cs=[.slice A l.length c]∧l.length≤c∧(0<l.length→∃b o xs,A=some ⟨b,o,none⟩∧P b∧D.aJ w P l xs∧∀j u,xs[j]?=some u→w.cell? ⟨b,o+j,none⟩=some u)
def D.aJ(w:World)(P:Nat→Prop):List D→List Value→Prop
 | []=>fun cs=>cs=[]
 | d::l=>fun cs=>∃x y,cs=x++y∧D.rep w P d x∧D.aJ w P l y
end
mutual
def D.sz:D→Nat
 | .i _=>1
 | .b _=>1
 | .s _=>1
 | .st l=>D.zh l
 | .sl _=>1
def D.zh:List D→Nat
 | []=>0
 | d::l=>D.sz d+D.zh l
end
mutual
theorem D.lz{w:World}{P:Nat→Prop}:∀(d:D) (cs:List Value),d.rep w P cs→cs.length=d.sz
 | .i n,cs,h=>by simp only[D.rep] at h;subst h;rfl
 | .b x,cs,h=>by simp only[D.rep] at h;subst h;rfl
 | .s x,cs,h=>by simp only[D.rep] at h;subst h;rfl
 | .st l,cs,h=>by simp only[D.rep] at h;simp only[D.sz];exact D.g8 l cs h
 | .sl l,cs,h=>by simp only[D.rep] at h;obtain⟨A,c,rfl,_⟩:=h;rfl
theorem D.g8{w:World}{P:Nat→Prop}:∀(l:List D) (cs:List Value),D.aJ w P l cs→cs.length=D.zh l
 | [],cs,h=>by simp only[D.aJ] at h;subst h;rfl
 | d::l,cs,h=>by
  simp only[D.aJ] at h;obtain⟨x,y,rfl,hx,a4⟩:=h;simp only[D.zh,List.length_append,D.lz d x hx,D.g8 l y a4]
end
mutual
theorem D.aP{w ac:World}{P:Nat→Prop}(ai:∀b,P b→ac.heap[b]?=w.heap[b]?):∀(d:D) (cs:List Value),d.rep w P cs→d.rep ac P cs
 | .i n,cs,h=>by simpa only[D.rep] using h
 | .b x,cs,h=>by simpa only[D.rep] using h
 | .s x,cs,h=>by simpa only[D.rep] using h
 | .st l,cs,h=>by simp only[D.rep] at h ⊢;exact D.bP ai l cs h
 | .sl l,cs,h=>by
  simp only[D.rep] at h ⊢;obtain⟨A,c,T,hc,hn⟩:=h;refine⟨A,c,T,hc,fun h0=>?_⟩;obtain⟨b,o,xs,bp,O,aQ,bd⟩:=hn h0;exact⟨b,o,xs,bp,O,D.bP ai l xs aQ,fun j u hu=>(World.cell?_of_block (w:=w) (ai b O)).trans (bd j u hu)⟩
theorem D.bP{w ac:World}{P:Nat→Prop}(ai:∀b,P b→ac.heap[b]?=w.heap[b]?):∀(l:List D) (cs:List Value),D.aJ w P l cs→D.aJ ac P l cs
 | [],cs,h=>by simpa only[D.aJ] using h
 | d::l,cs,h=>by
  simp only[D.aJ] at h ⊢;obtain⟨x,y,rfl,hx,a4⟩:=h;exact⟨x,y,rfl,D.aP ai d x hx,D.bP ai l y a4⟩
end
mutual
theorem D.aE{w:World}{P bf:Nat→Prop}(hp:∀b,P b→bf b):∀(d:D) (cs:List Value),d.rep w P cs→d.rep w bf cs
 | .i n,cs,h=>by simpa only[D.rep] using h
 | .b x,cs,h=>by simpa only[D.rep] using h
 | .s x,cs,h=>by simpa only[D.rep] using h
 | .st l,cs,h=>by simp only[D.rep] at h ⊢;exact D.bQ hp l cs h
 | .sl l,cs,h=>by
  simp only[D.rep] at h ⊢;obtain⟨A,c,T,hc,hn⟩:=h;refine⟨A,c,T,hc,fun h0=>?_⟩;obtain⟨b,o,xs,bp,O,aQ,bd⟩:=hn h0;exact⟨b,o,xs,bp,hp b O,D.bQ hp l xs aQ,bd⟩
theorem D.bQ{w:World}{P bf:Nat→Prop}(hp:∀b,P b→bf b):∀(l:List D) (cs:List Value),D.aJ w P l cs→D.aJ w bf l cs
 | [],cs,h=>by simpa only[D.aJ] using h
 | d::l,cs,h=>by
  simp only[D.aJ] at h ⊢;obtain⟨x,y,rfl,hx,a4⟩:=h;exact⟨x,y,rfl,D.aE hp d x hx,D.bQ hp l y a4⟩
end
mutual
theorem D.tm{w:World}{P:Nat→Prop}:∀(d:D) (cs:List Value),d.rep w P cs→∀u∈cs,u.oneCell'=true
 | .i n,cs,h=>by simp only[D.rep] at h;subst h;simp[Value.oneCell']
 | .b x,cs,h=>by simp only[D.rep] at h;subst h;simp[Value.oneCell']
 | .s x,cs,h=>by simp only[D.rep] at h;subst h;simp[Value.oneCell']
 | .st l,cs,h=>by simp only[D.rep] at h;exact D.qM l cs h
 | .sl l,cs,h=>by simp only[D.rep] at h;obtain⟨A,c,rfl,_⟩:=h;simp[Value.oneCell']
theorem D.qM{w:World}{P:Nat→Prop}:∀(l:List D) (cs:List Value),D.aJ w P l cs→∀u∈cs,u.oneCell'=true
 | [],cs,h=>by simp only[D.aJ] at h;subst h;simp
 | d::l,cs,h=>by
  simp only[D.aJ] at h;obtain⟨x,y,rfl,hx,a4⟩:=h;intro u hu;rcases List.mem_append.1 hu with hu|hu
  ·exact D.tm d x hx u hu
  ·exact D.qM l y a4 u hu
end
theorem D.cH{w:World}{P:Nat→Prop}:∀{l m:List D} {x y:List Value},D.aJ w P l x→D.aJ w P m y→D.aJ w P (l++m) (x++y)
 | [],m,x,y,hx,a4=>by simp only[D.aJ] at hx;subst hx;exact a4
 | d::l,m,x,y,hx,a4=>by
  simp only[D.aJ,List.cons_append] at hx ⊢;obtain⟨a,c,rfl,aW,hc⟩:=hx;exact⟨a,c++y,by rw[List.append_assoc],aW,D.cH hc a4⟩
theorem D.j8{w:World}{P:Nat→Prop}:∀{l m:List D} {x:List Value},D.aJ w P (l++m) x→∃y z,x=y++z∧D.aJ w P l y∧D.aJ w P m z
 | [],m,x,h=>⟨[],x,rfl,by simp only[D.aJ],h⟩
 | d::l,m,x,h=>by
  simp only[D.aJ,List.cons_append] at h;obtain⟨a,c,rfl,aW,hc⟩:=h;obtain⟨y,z,rfl,a4,ba⟩:=D.j8 hc;exact⟨a++y,z,by rw[List.append_assoc],by simp only[D.aJ];exact⟨a,y,rfl,aW,a4⟩,ba⟩
theorem D.bo{w:World}{P:Nat→Prop}{d:D}{x:List Value}:D.aJ w P [d] x↔d.rep w P x:=by
 simp only[D.aJ];constructor
 ·rintro⟨a,b,rfl,aW,rfl⟩;simpa using aW
 ·intro h;exact⟨x,[],by simp,h,rfl⟩
theorem D.gN{z:Nat}:∀{l:List D},(∀d∈l,d.sz=z)→D.zh l=l.length*z
 | [],_=>by simp[D.zh]
 | d::l,h=>by
  have ao:D.zh l=l.length*z:=D.gN (fun x hx=>h x (List.mem_cons_of_mem _ hx));simp only[D.zh,List.length_cons,Nat.succ_mul,h d (List.mem_cons_self),ao];omega
theorem D.pe{w:World}{P:Nat→Prop}{z:Nat}:∀{l:List D} {xs:List Value},D.aJ w P l xs→(∀d∈l,d.sz=z)→∀{k:Nat} {d:D},l[k]?=some d→
  ∃cs,d.rep w P cs∧cs.length=z∧∀j u,cs[j]?=some u→xs[k*z+j]?=some u
 | [],xs,_,_,k,d,ai=>by simp at ai
 | e::l,xs,h,ba,0,d,ai=>by
  simp only[D.aJ] at h;obtain⟨x,y,rfl,hx,_⟩:=h;simp only[List.getElem?_cons_zero,Option.some.injEq] at ai;subst ai;refine⟨x,hx,(D.lz _ _ hx).trans (ba e (by simp)),fun j u hu=>?_⟩;rw[Nat.zero_mul,Nat.zero_add,List.getElem?_append_left (List.getElem?_eq_some_iff.1 hu).1]
  exact hu
 | e::l,xs,h,ba,k+1,d,ai=>by
  simp only[D.aJ] at h;obtain⟨x,y,rfl,hx,a4⟩:=h;simp only[List.getElem?_cons_succ] at ai;obtain⟨cs,aQ,hl,bd⟩:=D.pe a4 (fun x hx=>ba x (by simp[hx])) ai;have aX:=(D.lz _ _ hx).trans (ba e (by simp));refine⟨cs,aQ,hl,fun j u hu=>?_⟩;rw[List.getElem?_append_right (by rw[aX,Nat.succ_mul];omega),aX,show (k+1)*z+j - z=k*z+j by rw[Nat.succ_mul];omega];exact bd j u hu
def Sl(w:World)(P:Nat→Prop)(A:LP)(n:Nat)(l:List D):Prop:=
 l.length=n∧(0<n→∃b o xs,A=some ⟨b,o,none⟩∧P b∧D.aJ w P l xs∧∀j u,xs[j]?=some u→w.cell? ⟨b,o+j,none⟩=some u)
section
variable {w ac:World} {P bf:Nat→Prop} {A:LP} {n z:Nat} {l:List D}
theorem D.ts{cs:List Value}:(D.sl l).rep w P cs↔∃A c n,cs=[.slice A n c]∧n≤c∧Sl w P A n l:=by
 simp only[D.rep,Sl];constructor
 ·rintro⟨A,c,rfl,hc,h⟩;exact⟨A,c,_,rfl,hc,rfl,h⟩
 ·rintro⟨A,c,n,rfl,hc,rfl,h⟩;exact⟨A,c,rfl,hc,h⟩
theorem Sl.bN(A:LP):Sl w P A 0 []:=⟨rfl,fun h=>absurd h (by omega)⟩
theorem Sl.ai(h:Sl w P A n l)(ai:∀b,P b→ac.heap[b]?=w.heap[b]?):Sl ac P A n l:=by
 refine⟨h.1,fun hn=>?_⟩;obtain⟨b,o,xs,bp,O,aQ,bd⟩:=h.2 hn;exact⟨b,o,xs,bp,O,D.bP ai l xs aQ,fun j u hu=>(World.cell?_of_block (w:=w) (ai b O)).trans (bd j u hu)⟩
theorem Sl.mono(h:Sl w P A n l)(hp:∀b,P b→bf b):Sl w bf A n l:=by
 refine⟨h.1,fun hn=>?_⟩;obtain⟨b,o,xs,bp,O,aQ,bd⟩:=h.2 hn;exact⟨b,o,xs,bp,hp b O,D.bQ hp l xs aQ,bd⟩
theorem Sl.some_(h:Sl w P A n l)(hn:0<n):∃b o,A=some ⟨b,o,none⟩∧P b:=by
 obtain⟨b,o,xs,bp,O,_⟩:=h.2 hn;exact⟨b,o,bp,O⟩
theorem Sl.none_(h:Sl w P none n l):n=0:=by
 rcases Nat.eq_zero_or_pos n with h0|h0
 ·exact h0
 ·obtain⟨b,o,bp,_⟩:=h.some_ h0;cases bp
theorem Sl.at_(h:Sl w P A n l)(ba:∀d∈l,d.sz=z){k:Nat}(ai:k<n) :
  ∃b o d cs,A=some ⟨b,o,none⟩∧P b∧l[k]?=some d∧d.rep w P cs∧cs.length=z∧∀j u,cs[j]?=some u→w.cell? ⟨b,o+k*z+j,none⟩=some u:=by
 obtain⟨b,o,xs,bp,O,aQ,bd⟩:=h.2 (by omega);have hm:l[k]?=some (l[k]'(by have:=h.1;omega)):=List.getElem?_eq_getElem _;obtain⟨cs,hd,hl,hc⟩:=D.pe aQ ba hm;exact⟨b,o,_,cs,bp,O,hm,hd,hl,fun j u hu=>by rw[Nat.add_assoc];exact bd _ u (hc j u hu)⟩
theorem Sl.gZ{α:Type}{enc:α→D}{l:List α}(h:Sl w P A n (l.map enc))(ba:∀x,(enc x).sz=z){k:Nat}(ai:k<n) :
  ∃b o x cs,A=some ⟨b,o,none⟩∧P b∧l[k]?=some x∧(enc x).rep w P cs∧cs.length=z∧∀j u,cs[j]?=some u→w.cell? ⟨b,o+k*z+j,none⟩=some u:=by
 obtain⟨b,o,d,cs,bp,O,hd,aQ,hl,hc⟩:=h.at_ (z:=z) (fun d hd=>by obtain⟨x,_,rfl⟩:=List.mem_map.1 hd;exact ba x) ai;rw[List.getElem?_map] at hd
 cases hx:l[k]? with
 | none=>rw[hx] at hd;cases hd
 | some x=>
  rw[hx] at hd;injection hd with hd;subst hd;exact⟨b,o,x,cs,bp,O,rfl,aQ,hl,hc⟩
theorem Sl.take(h:Sl w P A n l){m:Nat}(hm:m≤n):Sl w P A m (l.take m):=by
 refine⟨by have:=h.1;simp;omega,fun h0=>?_⟩;obtain⟨b,o,xs,bp,O,aQ,bd⟩:=h.2 (by omega);rw[←List.take_append_drop m l] at aQ;obtain⟨y,br,rfl,a4,_⟩:=D.j8 aQ;exact⟨b,o,y,bp,O,a4,fun j u hu=>bd j u (by rw[List.getElem?_append_left (List.getElem?_eq_some_iff.1 hu).1];exact hu)⟩
theorem Sl.src(h:Sl w P A n l)(ba:∀d∈l,d.sz=z):∃xs,D.aJ w P l xs∧Src w z A n xs:=by
 rcases Nat.eq_zero_or_pos n with hn|hn
 ·subst hn;have:l=[]:=List.eq_nil_of_length_eq_zero h.1;subst this;exact⟨[],by simp only[D.aJ],by simp,by simp,fun h=>absurd h (by omega)⟩
 ·obtain⟨b,o,xs,bp,O,aQ,bd⟩:=h.2 hn;exact⟨xs,aQ,by rw[D.g8 _ _ aQ,D.gN ba,h.1],D.qM l xs aQ,fun _=>⟨b,o,bp,bd⟩⟩
theorem Sl.qz{base:Nat}{e:TypeId}{c:Nat}{xs:List Value}(h:w.ownsRow base e z (.slice A n c) n xs)(aQ:D.aJ w P l xs)(hl:l.length=n)(aY:∀g,A=some ⟨g,0,none⟩→base≤g→g<w.heap.size→P g):Sl w P A n l:=by
 refine⟨hl,fun hn=>?_⟩;obtain⟨g,bp,O,aK,hc,_⟩:=h9 h hn;exact⟨g,0,xs,bp,aY g bp O aK,aQ,fun j u hu=>by rw[Nat.zero_add];exact hc j u hu⟩
end
abbrev au(w:World):Nat→Prop:=fun b=>b<w.heap.size
theorem D.on{w ac:World}{d:D}{cs:List Value}(h:d.rep w (au w) cs)(O:Below w.heap.size w ac):d.rep ac (au ac) cs:=
 D.aE (fun _ aw=>Nat.lt_of_lt_of_le aw O.size) _ _ (D.aP (fun b aw=>O.block b aw) _ _ h)
theorem Sl.on{w ac:World}{A:LP}{n:Nat}{l:List D}(h:Sl w (au w) A n l)(O:Below w.heap.size w ac):Sl ac (au ac) A n l:=
 (h.ai (fun b aw=>O.block b aw)).mono (fun _ aw=>Nat.lt_of_lt_of_le aw O.size)
structure Fr(M:Nat→Prop)(w ac:World):Prop where
 os:ac.os=w.os
 tape:ac.tape=w.tape
 output:ac.output=w.output
 size:w.heap.size≤ac.heap.size
 block:∀k,k<w.heap.size→¬M k→ac.heap[k]?=w.heap[k]?
abbrev Ext:World→World→Prop:=Fr fun _=>False
section
variable {M M':Nat→Prop} {a b c:World}
theorem Fr.refl(M:Nat→Prop)(w:World):Fr M w w:=⟨rfl,rfl,rfl,Nat.le_refl _,fun _ _ _=>rfl⟩
theorem Fr.trans(h:Fr M a b)(k:Fr M b c):Fr M a c:=
 ⟨k.os.trans h.os,k.tape.trans h.tape,k.output.trans h.output,Nat.le_trans h.size k.size,fun i ak hn=>(k.block i (Nat.lt_of_lt_of_le ak h.size) hn).trans (h.block i ak hn)⟩
theorem Fr.mono(h:Fr M a b)(hM:∀k,M k→M' k):Fr M' a b:=⟨h.os,h.tape,h.output,h.size,fun k ai hn=>h.block k ai fun hm=>hn (hM k hm)⟩
theorem Fr.of(h:Below a.heap.size a b):Fr M a b:=⟨h.os,h.tape,h.output,h.size,fun k ai _=>h.block k ai⟩
theorem Fr.below{B:Nat}(h:Fr M a b)(aN:B≤a.heap.size)(hM:∀k,k<B→¬M k):Below B a b:=⟨h.os,h.tape,h.output,h.size,fun k ai=>h.block k (Nat.lt_of_lt_of_le ai aN) (hM k ai)⟩
theorem Fr.low(h:Fr M a b)(hM:∀k,M k→a.heap.size≤k):Ext a b:=⟨h.os,h.tape,h.output,h.size,fun k ai _=>h.block k ai fun hm=>by have:=hM k hm;omega⟩
theorem Fr.ext(h:Ext a b):Below a.heap.size a b:=h.below (Nat.le_refl _) fun _ _ h=>h
theorem Fr.drew(h:Fr M a b):Fr M a b.drew:=⟨h.os,h.tape,h.output,h.size,h.block⟩
theorem Fr.drewN(h:Fr M a b)(n:Nat):Fr M a (b.drewN n):=⟨h.os,h.tape,h.output,h.size,h.block⟩
theorem Fr.alloc(h:Fr M a b)(o:Obj):Fr M a (b.alloc o):=
 ⟨h.os,h.tape,h.output,by have:=h.size;simp;omega,fun k ai hn=>(Below.heap_alloc b o k (Nat.lt_of_lt_of_le ai h.size)).trans (h.block k ai hn)⟩
theorem Fr.setCell(h:Fr M a b){p:Addr}(hp:M p.block∨a.heap.size≤p.block)(v:Value):Fr M a (b.setCell p v):=by
 refine⟨h.os,h.tape,h.output,by simpa using h.size,fun k ai hn=>?_⟩;have:k≠p.block:=by
  rintro rfl;rcases hp with hp|hp
  ·exact hn hp
  ·omega
 rw[Below.heap_setCell _ _ _ _ this];exact h.block k ai hn
theorem Fr.eI(h:Fr M a b)(k:Below a.heap.size b c):Fr M a c:=
 ⟨k.os.trans h.os,k.tape.trans h.tape,k.output.trans h.output,Nat.le_trans h.size k.size,fun i ak hn=>(k.block i ak).trans (h.block i ak hn)⟩
theorem Fr.grown{row:Option Nat}(h:Fr M a b)(aK:b.grownBy c row)(aQ:∀g,row=some g→M g∨a.heap.size≤g):Fr M a c:=by
 refine⟨aK.os.trans h.os,aK.tape.trans h.tape,aK.output.trans h.output,Nat.le_trans h.size aK.size,fun k ai hn=>?_⟩;refine(aK.block k (Nat.lt_of_lt_of_le ai h.size) fun e=>?_).trans (h.block k ai hn);rcases aQ k e.symm with ae|ae
 ·exact hn ae
 ·omega
theorem Fr.cell(h:Fr M a b){k j:Nat}(ai:k<a.heap.size)(hn:¬M k):b.cell? ⟨k,j,none⟩=a.cell? ⟨k,j,none⟩:=World.cell?_of_block (h.block k ai hn)
theorem Fr.frozen(h:Fr M a b){k j:Nat}(ai:k<a.heap.size)(hn:¬M k):b.frozen? ⟨k,j,none⟩=a.frozen? ⟨k,j,none⟩:=by
 simp only[World.frozen?,h.block k ai hn]
theorem Fr.two(h:Fr M a b):(∀k j,k<a.heap.size→¬M k→b.cell? ⟨k,j,none⟩=a.cell? ⟨k,j,none⟩)∧(∀k j,k<a.heap.size→¬M k→b.frozen? ⟨k,j,none⟩=a.frozen? ⟨k,j,none⟩):=
 ⟨fun _ _ ai hn=>h.cell ai hn,fun _ _ ai hn=>h.frozen ai hn⟩
theorem Fr.rz(h:Ext a b):(∀k j,k<a.heap.size→b.cell? ⟨k,j,none⟩=a.cell? ⟨k,j,none⟩)∧(∀k j,k<a.heap.size→b.frozen? ⟨k,j,none⟩=a.frozen? ⟨k,j,none⟩):=
 ⟨fun _ _ ai=>h.cell ai (fun h=>h),fun _ _ ai=>h.frozen ai (fun h=>h)⟩
theorem Fr.twod(h:Fr M a.drew b):(∀k j,k<a.heap.size→¬M k→b.cell? ⟨k,j,none⟩=a.cell? ⟨k,j,none⟩)∧(∀k j,k<a.heap.size→¬M k→b.frozen? ⟨k,j,none⟩=a.frozen? ⟨k,j,none⟩):=
 ⟨fun _ _ ai hn=>h.cell ai hn,fun _ _ ai hn=>h.frozen ai hn⟩
theorem Fr.G2(h:Ext a.drew b):(∀k j,k<a.heap.size→b.cell? ⟨k,j,none⟩=a.cell? ⟨k,j,none⟩)∧(∀k j,k<a.heap.size→b.frozen? ⟨k,j,none⟩=a.frozen? ⟨k,j,none⟩):=
 ⟨fun _ _ ai=>h.cell ai (fun h=>h),fun _ _ ai=>h.frozen ai (fun h=>h)⟩
theorem Fr.jq(h:Ext a.drew.drew b):(∀k j,k<a.heap.size→b.cell? ⟨k,j,none⟩=a.cell? ⟨k,j,none⟩)∧(∀k j,k<a.heap.size→b.frozen? ⟨k,j,none⟩=a.frozen? ⟨k,j,none⟩):=
 ⟨fun _ _ ai=>h.cell ai (fun h=>h),fun _ _ ai=>h.frozen ai (fun h=>h)⟩
theorem Fr.JT(h:Ext a.drew.drew.drew b):(∀k j,k<a.heap.size→b.cell? ⟨k,j,none⟩=a.cell? ⟨k,j,none⟩)∧(∀k j,k<a.heap.size→b.frozen? ⟨k,j,none⟩=a.frozen? ⟨k,j,none⟩):=
 ⟨fun _ _ ai=>h.cell ai (fun h=>h),fun _ _ ai=>h.frozen ai (fun h=>h)⟩
theorem Fr.Ja(h:Fr M a.drew.drew b):(∀k j,k<a.heap.size→¬M k→b.cell? ⟨k,j,none⟩=a.cell? ⟨k,j,none⟩)∧(∀k j,k<a.heap.size→¬M k→b.frozen? ⟨k,j,none⟩=a.frozen? ⟨k,j,none⟩):=
 ⟨fun _ _ ai hn=>h.cell ai hn,fun _ _ ai hn=>h.frozen ai hn⟩
theorem Fr.aQ(h:Fr M a.drew b):Fr M a b:=⟨h.os,h.tape,h.output,h.size,h.block⟩
end
abbrev off(M:Nat→Prop)(w:World):Nat→Prop:=fun b=>b<w.heap.size∧¬M b
section
variable {M:Nat→Prop} {w ac:World}
theorem uy(h:Fr M w ac):∀b,off M w b→off M ac b:=fun _ O=>⟨Nat.lt_of_lt_of_le O.1 h.size,O.2⟩
theorem D.cS{d:D}{cs:List Value}(h:d.rep w (off M w) cs)(O:Fr M w ac):d.rep ac (off M ac) cs:=
 D.aE (uy O) _ _ (D.aP (fun b aw=>O.block b aw.1 aw.2) _ _ h)
theorem Sl.cS{A:LP}{n:Nat}{l:List D}(h:Sl w (off M w) A n l)(O:Fr M w ac):Sl ac (off M ac) A n l:=
 (h.ai (fun b aw=>O.block b aw.1 aw.2)).mono (uy O)
end
def an(w:World)(g:Nat)(t:TypeId)(cs:Array Value):Prop:=w.heap[g]?=some (.cells cs t (0,0))
section
variable {w ac:World} {g:Nat} {t:TypeId} {cs:Array Value} {M:Nat→Prop}
theorem an.lt(h:an w g t cs):g<w.heap.size:=by
 rcases Nat.lt_or_ge g w.heap.size with aw|a4
 ·exact aw
 ·unfold an at h;rw[Array.getElem?_eq_none a4] at h;cases h
theorem an.cell(h:an w g t cs)(i:Nat):w.cell? ⟨g,i,none⟩=cs[i]?:=cell_of_row w g i cs t (0,0) h
theorem an.frozen(h:an w g t cs)(i:Nat):w.frozen? ⟨g,i,none⟩=false:=by
 unfold an at h;simp[World.frozen?,h]
theorem an.two(h:an w g t cs):(∀i,w.cell? ⟨g,i,none⟩=cs[i]?)∧(∀i,w.frozen? ⟨g,i,none⟩=false)∧g<w.heap.size:=⟨h.cell,h.frozen,h.lt⟩
theorem an.new(w:World)(t:TypeId)(cs:Array Value):an (w.alloc (.cells cs t)) w.heap.size t cs:=heap_alloc_new w _
theorem an.hY(w:World)(t:TypeId)(cs:Array Value)(aK:g=w.heap.size):an (w.alloc (.cells cs t)) g t cs:=by
 subst aK;exact heap_alloc_new w _
theorem an.drew(h:an w g t cs):an w.drew g t cs:=h
theorem an.alloc(h:an w g t cs)(o:Obj):an (w.alloc o) g t cs:=(Below.heap_alloc w o g h.lt).trans h
theorem an.aD(h:an w g t cs)(i:Nat)(u:Value):an (w.setCell ⟨g,i,none⟩ u) g t (cs.setIfInBounds i u):=by
 unfold an at h ⊢;simp[World.setCell,Array.getElem?_modify,h]
theorem an.J1(h:an w g t cs){p:Addr}(hp:g≠p.block)(u:Value):an (w.setCell p u) g t cs:=(Below.heap_setCell w p u g hp).trans h
theorem an.below{B:Nat}(h:an w g t cs)(O:Below B w ac)(aK:g<B):an ac g t cs:=(O.block g aK).trans h
theorem an.on(h:an w g t cs)(O:Fr M w ac)(aK:¬M g):an ac g t cs:=(O.block g h.lt aK).trans h
theorem an.aj(h:an w g t cs)(O:Ext w ac):an ac g t cs:=(O.block g h.lt fun h=>h).trans h
theorem an.grown{row:Option Nat}(h:an w g t cs)(O:w.grownBy ac row)(aK:some g≠row):an ac g t cs:=(O.block g h.lt aK).trans h
end
theorem PU:(∀(t:Array Value) (d:List Deferred) (i:Nat) (v:Value),Act.put ⟨t,d⟩ (some i) v=⟨t.setIfInBounds i v,d⟩)∧(∀(l:List Value) (i:Nat) (v:Value),l.toArray.setIfInBounds i v=(l.set i v).toArray)∧(∀(x v:Value) (l:List Value),(x::l).set 0 v=v::l)∧(∀(x v:Value) (l:List Value) (i:Nat),(x::l).set (i+1) v=x::l.set i v)∧
  (∀(l:List Oper) (i:Nat) (h:i<l.toArray.size),l.toArray[i]'h=l[i]'(by simpa using h))∧(∀(x:Oper) (l:List Oper) (h:0<(x::l).length),(x::l)[0]'h=x)∧(∀(x:Oper) (l:List Oper) (i:Nat) (h:i+1<(x::l).length),(x::l)[i+1]'h=l[i]'(by simpa using h)):=
 ⟨fun _ _ _ _=>rfl,fun _ _ _=>by simp,fun _ _ _=>rfl,fun _ _ _ _=>rfl,fun _ _ _=>by simp,fun _ _ _=>rfl,fun _ _ _ _=>rfl⟩
section
variable {P:Program} {ops:Array Oper} {Q:Exit→Act→World→Prop} {R:World→World→Prop} {M:Nat→Prop} {tails:List Nat} {i:Nat} {o:Oper} {v:Value} {a r:Act} {w:World}
theorem pf{rest:List (Nat×Nat)}(h:bW P ops Q R rest r w)(ak:ops[i]?=some o:=by rfl)(hw:Region.wanted o (yielded ops a.tmps)=true:=by rfl)(bD:∀V,(execOp a.eval o).run P V=.ok (.value v) V:=by intro V;(go_simp<;>with_reducible rfl))(aW:a.put o.dst v=r:=by (simp only[PU];rfl)) :
  bW P ops Q R ((i,3)::rest) a w:=bh ak hw bD (aW▸h)
theorem tf{rest:PT}(h:cQ P ops Q R tails rest r w)(ak:ops[i]?=some o:=by rfl)(hw:Region.wanted o (yielded ops a.tmps)=true:=by rfl)(bD:∀V,(execOp a.eval o).run P V=.ok (.value v) V:=by intro V;(go_simp<;>with_reducible rfl))(aW:a.put o.dst v=r:=by (simp only[PU];rfl)) :
  cQ P ops Q R tails (.free i rest) a w:=lD ak hw bD (aW▸h)
theorem ph{rest:List (Nat×Nat)}(h:bW P ops Q R rest r w)(ak:ops[i]?=some o:=by rfl)(hw:Region.wanted o (yielded ops a.tmps)=true:=by rfl)(bD:∀V,R w V→(execOp a.eval o).run P V=.ok (.value v) V:=by intro V hV;obtain⟨hVc,hVf⟩:=Fr.G2 hV;(go_simp<;>with_reducible rfl))(aW:a.put o.dst v=r:=by (simp only[PU];rfl)) :
  bW P ops Q R ((i,0)::rest) a w:=bH ak hw bD (aW▸h)
theorem th{rest:PT}(h:cQ P ops Q R tails rest r w)(ak:ops[i]?=some o:=by rfl)(hw:Region.wanted o (yielded ops a.tmps)=true:=by rfl)(bD:∀V,R w V→(execOp a.eval o).run P V=.ok (.value v) V:=by intro V hV;obtain⟨hVc,hVf⟩:=Fr.G2 hV;(go_simp<;>with_reducible rfl))(aW:a.put o.dst v=r:=by (simp only[PU];rfl)) :
  cQ P ops Q R tails (.held i rest) a w:=b3 ak hw bD (aW▸h)
theorem KT{rest:List (Nat×Nat)}(h:bW P ops Q R rest r w)(ak:ops[i]?=some o:=by rfl)(hw:Region.wanted o (yielded ops a.tmps)=true:=by rfl)(bD:∀V,R w V→(execOp a.eval o).run P V=.ok (.value v) V:=by intro V hV;obtain⟨hVc,hVf⟩:=Fr.rz hV;(go_simp<;>with_reducible rfl))(aW:a.put o.dst v=r:=by (simp only[PU];rfl)) :
  bW P ops Q R ((i,0)::rest) a w:=bH ak hw bD (aW▸h)
theorem K0{rest:PT}(h:cQ P ops Q R tails rest r w)(ak:ops[i]?=some o:=by rfl)(hw:Region.wanted o (yielded ops a.tmps)=true:=by rfl)(bD:∀V,R w V→(execOp a.eval o).run P V=.ok (.value v) V:=by intro V hV;obtain⟨hVc,hVf⟩:=Fr.rz hV;(go_simp<;>with_reducible rfl))(aW:a.put o.dst v=r:=by (simp only[PU];rfl)) :
  cQ P ops Q R tails (.held i rest) a w:=b3 ak hw bD (aW▸h)
theorem qF{rest:List (Nat×Nat)}(h:bW P ops Q R rest r w)(ak:ops[i]?=some o:=by rfl)(hw:Region.wanted o (yielded ops a.tmps)=true:=by rfl)(bD:∀V,R w V→(execOp a.eval o).run P V=.ok (.value v) V:=by intro V hV;obtain⟨hVc,hVf⟩:=Fr.twod hV;(go_simp<;>with_reducible rfl))(aW:a.put o.dst v=r:=by (simp only[PU];rfl)) :
  bW P ops Q R ((i,0)::rest) a w:=bH ak hw bD (aW▸h)
theorem oJ{rest:PT}(h:cQ P ops Q R tails rest r w)(ak:ops[i]?=some o:=by rfl)(hw:Region.wanted o (yielded ops a.tmps)=true:=by rfl)(bD:∀V,R w V→(execOp a.eval o).run P V=.ok (.value v) V:=by intro V hV;obtain⟨hVc,hVf⟩:=Fr.twod hV;(go_simp<;>with_reducible rfl))(aW:a.put o.dst v=r:=by (simp only[PU];rfl)) :
  cQ P ops Q R tails (.held i rest) a w:=b3 ak hw bD (aW▸h)
theorem Kw{rest:List (Nat×Nat)}(h:bW P ops Q R rest r w)(ak:ops[i]?=some o:=by rfl)(hw:Region.wanted o (yielded ops a.tmps)=true:=by rfl)(bD:∀V,R w V→(execOp a.eval o).run P V=.ok (.value v) V:=by intro V hV;obtain⟨hVc,hVf⟩:=Fr.two hV;(go_simp<;>with_reducible rfl))(aW:a.put o.dst v=r:=by (simp only[PU];rfl)) :
  bW P ops Q R ((i,0)::rest) a w:=bH ak hw bD (aW▸h)
theorem J8{rest:PT}(h:cQ P ops Q R tails rest r w)(ak:ops[i]?=some o:=by rfl)(hw:Region.wanted o (yielded ops a.tmps)=true:=by rfl)(bD:∀V,R w V→(execOp a.eval o).run P V=.ok (.value v) V:=by intro V hV;obtain⟨hVc,hVf⟩:=Fr.two hV;(go_simp<;>with_reducible rfl))(aW:a.put o.dst v=r:=by (simp only[PU];rfl)) :
  cQ P ops Q R tails (.held i rest) a w:=b3 ak hw bD (aW▸h)
theorem Fs{rest:List (Nat×Nat)}(h:bW P ops Q R rest r w)(ak:ops[i]?=some o:=by rfl)(hw:Region.wanted o (yielded ops a.tmps)=true:=by rfl)(bD:∀V,R w V→(execOp a.eval o).run P V=.ok (.value v) V:=by intro V hV;obtain⟨hVc,hVf⟩:=Fr.Ja hV;(go_simp<;>with_reducible rfl))(aW:a.put o.dst v=r:=by (simp only[PU];rfl)) :
  bW P ops Q R ((i,0)::rest) a w:=bH ak hw bD (aW▸h)
theorem r9{ac:World}{rest:List (Nat×Nat)}{M:Nat→Prop}(h:bW P ops Q (Fr M) rest r ac)(ak:ops[i]?=some o:=by rfl)(hx:∀K:Act→World→Prop,K r ac→if Region.wanted o (yielded ops a.tmps)=true then o.wp P a w K Q else K (a.put o.dst undef) w:=by (intro K hK;go_simp;(try simp only[PU] at hK ⊢);exact hK))(cg:Fr M w ac:=by exact(Fr.refl _ _).alloc _) :
  bW P ops Q (Fr M) ((i,1)::rest) a w:=aO ak fun K hK=>hx K (hK _ _ cg h)
theorem fj{ac:World}{p:PT}{M:Nat→Prop}(h:cQ P ops Q (Fr M) tails p r ac)(ak:ops[i]?=some o:=by rfl)(hx:∀K:Act→World→Prop,K r ac→if Region.wanted o (yielded ops a.tmps)=true then o.wp P a w K Q else K (a.put o.dst undef) w:=by (intro K hK;go_simp;(try simp only[PU] at hK ⊢);exact hK))(cg:Fr M w ac:=by exact(Fr.refl _ _).alloc _)(hT:tails.contains i=false:=by rfl) :
  so P ops Q (Fr M) tails i p a w:=aG ak (fun K hK=>hx K (hK _ _ cg h)) hT
end
section
variable {P:Program} {ops:Array Oper} {Q:Exit→Act→World→Prop} {M:Nat→Prop} {id:Nat} {a:Act} {w:World}
theorem eU(M:Nat→Prop)(e:List (Nat×Nat))(h:bW P ops Q (Fr M) e a w.drew)(ae:P.follows .mixedOrders=true:=by kernel_rfl)(aD:wK .any ops e=true:=by kernel_rfl)(br:∀c a d v w,Q (.panic c) (a.put d v) w→Q (.panic c) a w:=by (intro _ _ d _ _ h;first|(cases d<;>exact h)|exact hQ0 _ _ _ _ _ h)):(Code.region id ops true).wp P Q a w:=
 k3 (Fr M) e ae aD (Fr.refl _) (fun _ _ _ h k=>h.trans k) br h
theorem uP(M:Nat→Prop)(tails:List Nat)(p:PT)(h:cQ P ops Q (Fr M) tails p a w.drew)(ae:P.follows .mixedOrders=true:=by kernel_rfl)(aD:xc .any ops tails p=true:=by kernel_rfl)(br:∀c a d v w,Q (.panic c) (a.put d v) w→Q (.panic c) a w:=by (intro _ _ d _ _ h;first|(cases d<;>exact h)|exact hQ0 _ _ _ _ _ h)):(Code.region id ops true).wp P Q a w:=
 q3 (Fr M) tails p ae aD (Fr.refl _) (fun _ _ _ h k=>h.trans k) br h
end
theorem ei{K:Act→World→Prop}{c:World→Prop}{b:Act→World→Prop}{a r:Act}{ac:World}(hK:∀r ac,c ac→b r ac→K r ac)(cg:c ac)(h:b r ac)(e:a=r:=by ((try simp only[PU]);rfl)):K a ac:=hK _ _ cg (e▸h)
theorem eL{K:Act→World→Prop}{b:Act→World→Prop}{a r:Act}{ac:World}(hK:∀r ac,b r ac→K r ac)(h:b r ac)(e:a=r:=by ((try simp only[PU]);rfl)):K a ac:=hK _ _ (e▸h)
end Go.Proofs.YtflecliffjbleaaGreat
