/- Part 0 of the proof. No condition of its own. -/
import Derived.Deep.Draws
import Derived.Maps.AppendAt
import Derived.OrdersHeld
import Derived.StillTail
import Derived.Test.YtglbpimocmhojaaGreatRows
import Derived.WalkKit
import Derived.WalkLawsBesides
import Derived.WalkSpells
namespace Go.Proofs.YtglbpimocmhojaaGreat
open Go.RowKit Go.Proofs.Tryz
set_option maxRecDepth 1000000
set_option maxHeartbeats 25600000
set_option linter.unusedVariables false
abbrev Lp:=Option Addr
abbrev Lq:=List ByteArray
def Lr(p:Prop):Prop:=p
theorem Lr.o{p:Prop}(h:Lr p):p:=h
section
variable {P:Program} {ops:Array Oper} {Q:Exit→Act→World→Prop} {md:Region.Mode} {R:World→World→Prop} {T:Nat→Bool}
def j7(P:Program)(md:Region.Mode)(ops:Array Oper)(Q:Exit→Act→World→Prop)(R:World→World→Prop)(T:Nat→Bool):Nat→Array Bool→Act→World→Prop
 | 0,listed,a,w=>Region.ready md ops listed=[]∧Q .normal a w
 | fuel+1,listed,a,w=>
  (Region.ready md ops listed=[]→Q .normal a w)∧
  ∀i∈Region.ready md ops listed,wpOp P ops Q i (fun r ab=>(T i=true→R w ab)∧j7 P md ops Q R T fuel (listed.setIfInBounds i true) r ab) a w
theorem me:∀(fuel:Nat) (listed:Array Bool) (a:Act) (w:World),j7 P md ops Q R T fuel listed a w→wpAny P md ops Q fuel listed a w
 | 0,_,_,_,h=>h
 | fuel+1,_,_,_,h=>⟨h.1,fun i an=>wpOp_mono (fun r ab F=>me fuel _ r ab F.2) (h.2 i an)⟩
def jM(md:Region.Mode)(ops:Array Oper)(listed:Array Bool):Prop:=
 ∀j g,ops[j]?=some g→listed.getD j false=true→∀e∈g.after,Region.binds md e=true→listed.getD e.on false=true
theorem jM.set{i:Nat}{listed:Array Bool}(inv:jM md ops listed)(an:i∈Region.ready md ops listed):jM md ops (listed.setIfInBounds i true):=by
 obtain⟨_,p,b0,y⟩:=mem_ready.1 an;intro j g bi hl e he O;by_cases J:i=j
 ·subst J;have:g=p:=Option.some.inj (bi.symm.trans b0);subst this;exact getD_set_true (y e he O)
 ·rw[getD_set_ne false J] at hl;exact getD_set_true (inv j g bi hl e he O)
def C2(md:Region.Mode)(ops:Array Oper):Nat→Nat→Nat→Bool
 | 0,_,_=>false
 | f+1,j,i=>match ops[j]? with
  | none=>false
  | some g=>g.after.any fun e=>Region.binds md e && (e.on == i || C2 md ops f e.on i)
theorem C3{i:Nat}{listed:Array Bool}(inv:jM md ops listed):∀(f j:Nat),C2 md ops f j i=true→
  (∃g,ops[j]?=some g∧∀e∈g.after,Region.binds md e=true→listed.getD e.on false=true)→listed.getD i false=true:=by
 intro f
 induction f with
 | zero=>intro j h;simp[C2] at h
 | succ f ao=>
  intro j h bi;obtain⟨g,bn,y⟩:=bi;simp only[C2,bn] at h;obtain⟨e,he,O⟩:=Array.any_eq_true'.1 h;simp only[Bool.and_eq_true,Bool.or_eq_true,beq_iff_eq] at O;have hl:=y e he O.1;rcases O.2 with au|au
  ·rw[←au];exact hl
  ·refine ao e.on au ?_
   cases ap:ops[e.on]? with
   | none=>cases f<;>simp[C2,ap] at au
   | some ok=>exact⟨ok,rfl,fun l a aV=>inv e.on ok ap hl l a aV⟩
theorem h6{i:Nat}{p:Oper}{v:Value}{U:World→World→Prop}(t:∀a b c,R a b→U b c→U a c)(l:∀a,R a a)(B:∀a,U a a)(an:ops[i]?=some p)(q:∀(j:Nat) (o:Oper) cs b,ops[j]?=some o→o.op≠.select cs b)
  (hQ:∀c a w,Q (.panic c) (a.put p.dst v) w→Q (.panic c) a w) (hT:(∀a b,U a b)∨∀j,T j=false→∃f,C2 md ops f j i=true) :
  ∀(fuel:Nat) (listed:Array Bool) (a:Act) (w:World),jM md ops listed→
   (∀j g,ops[j]?=some g→j≠i→listed.getD j true=false→(∀e∈g.after,Region.binds md e=true→e.on≠i)→p.apart ops g=true)→
   i∈Region.ready md ops listed→YieldsIf P ops (U w) p v a→
   j7 P md ops Q R T fuel (listed.setIfInBounds i true) (a.put p.dst v) w→j7 P md ops Q R T (fuel+1) listed a w:=by
 intro fuel
 induction fuel with
 | zero=>
  intro listed a w _ _ a5 bb H;refine⟨fun h=>(by rw[h] at a5;cases a5),fun j bi=>?_⟩;by_cases az:j=i
  ·subst az;exact bb.wpOp an (B w) ⟨fun _=>l w,H⟩
  ·have:=ready_mono bi az;rw[H.1] at this
   cases this
 | succ fuel ao=>
  intro listed a w inv Z a5 bb H;refine⟨fun h=>(by rw[h] at a5;cases a5),fun j bi=>?_⟩;by_cases az:j=i
  ·subst az;exact bb.wpOp an (B w) ⟨fun _=>l w,H⟩
  ·have ac:=H.2 j (ready_mono bi az);obtain⟨x,g,u,y⟩:=mem_ready.1 bi;have n:=(mem_ready.1 a5).1;have A:∀e∈g.after,Region.binds md e=true→e.on≠i:=fun e he O heq=>by
    have ac:=y e he O;have h0:=n;rw[heq] at ac;rcases Nat.lt_or_ge i listed.size with F|F
    ·simp[F] at h0 ac;rw[h0] at ac;cases ac
    ·simp[Array.getElem?_eq_none F] at ac
   have m:(∀a b,U a b)∨T j=true:=by
    rcases hT with hT|hT
    ·exact .inl hT
    refine .inr ?_
    cases m:T j with
    | true=>rfl
    | false=>
     obtain⟨f,J⟩:=hT j m;have:=C3 inv f j J ⟨g,u,y⟩;rcases Nat.lt_or_ge i listed.size with F|F
     ·simp[F] at n this;rw[n] at this;cases this
     ·simp[Array.getElem?_eq_none F] at this
   have au:=wpOp_putIf (S:=U w) u (Z j g u az x A) (fun cs b=>q i p cs b an) (fun cs b=>q j g cs b u) hQ bb ac;have s:∀k ok,ops[k]?=some ok→k≠i→(listed.setIfInBounds j true).getD k true=false→
     (∀e∈ok.after,Region.binds md e=true→e.on≠i)→p.apart ops ok=true:=fun k ok ap D C bQ=>by
    refine Z k ok ap D ?_ bQ;by_cases z:j=k
    ·subst z;exact x
    ·rw[getD_set_ne true z] at C;exact C
   refine wpOp_mono (fun r ab aU=>?_) au;have d:YieldsIf P ops (U ab) p v r:=aU.1.imp (fun⟨hw,bI⟩=>⟨hw,fun V hV=>bI V (m.elim (fun h=>h _ _) fun h=>t _ _ _ (aU.2.1 h) hV)⟩) id;refine⟨aU.2.1,ao (listed.setIfInBounds j true) r ab (inv.set bi) s (ready_mono a5 (Ne.symm az)) d ?_⟩;rw[Array.setIfInBounds_comm _ _ az];exact aU.2.2
def b5(P:Program)(ops:Array Oper)(Q:Exit→Act→World→Prop)(R:World→World→Prop):List (Nat×Nat)→Act→World→Prop
 | [],a,w=>Q .normal a w
 | (i,0)::rest,a,w=>∃o v,ops[i]?=some o∧YieldsIf P ops (R w) o v a∧b5 P ops Q R rest (a.put o.dst v) w
 | (i,3)::rest,a,w=>∃o v,ops[i]?=some o∧YieldsIf P ops (fun _=>True) o v a∧b5 P ops Q R rest (a.put o.dst v) w
 | (i,k+1)::rest,a,w=>∃o,ops[i]?=some o∧∀K:Act→World→Prop,(∀r ab,(k=0→R w ab)→b5 P ops Q R rest r ab→K r ab)→
   (if Region.wanted o (yielded ops a.tmps)=true then o.wp P a w K Q else K (a.put o.dst undef) w)
def lx(md:Region.Mode)(ops:Array Oper):List (Nat×Nat)→Array Bool→Bool
 | [],listed=>(Region.ready md ops listed).isEmpty
 | (i,0)::rest,listed=>Region.free md ops listed i && (Region.ready md ops listed).contains i && lx md ops rest (listed.setIfInBounds i true)
 | (i,3)::rest,listed=>Region.free md ops listed i && (Region.ready md ops listed).contains i && lx md ops rest (listed.setIfInBounds i true)
 | (i,_+1)::rest,listed=>(Region.ready md ops listed == [i]) && lx md ops rest (listed.setIfInBounds i true)
def mT(e:List (Nat×Nat)):List Nat:=(e.filter fun p=>decide (2=p.2)).map (·.1)
def wj(md:Region.Mode)(ops:Array Oper)(e:List (Nat×Nat)):Bool:=
 Region.noSelect ops && (e.length == ops.size) && (e.all fun p=>decide (p.2≤3)) && (e.all fun p=>decide (p.2=1∨p.2=2∨p.2=3) || (mT e).all fun j=>C2 md ops ops.size j p.1) && lx md ops e (Array.replicate ops.size false)
theorem iJ(t:∀a b c,R a b→R b c→R a c)(l:∀a,R a a)(q:∀(j:Nat) (o:Oper) cs b,ops[j]?=some o→o.op≠.select cs b)
  (hQ:∀c a d v w,Q (.panic c) (a.put d v) w→Q (.panic c) a w) :
  ∀(e:List (Nat×Nat)) (listed:Array Bool) (a:Act) (w:World),jM md ops listed→lx md ops e listed=true→
   (∀p∈e,p.2=0→∀j,T j=false→∃f,C2 md ops f j p.1=true)→(∀p∈e,2=p.2→T p.1=false)→(∀p∈e,p.2≤3)→
   b5 P ops Q R e a w→j7 P md ops Q R T e.length listed a w
 | [],listed,a,w,_,aR,_,_,_,h=>⟨by simpa[lx] using aR,h⟩
 | (i,0)::rest,listed,a,w,inv,aR,h0,au,aU,h=>by
  obtain⟨o,v,an,bb,h⟩:=h;simp only[lx,Bool.and_eq_true] at aR;have a5:i∈Region.ready md ops listed:=by simpa using aR.1.2
  exact h6 (U:=R) t l l an q (fun c a w=>hQ c a _ _ w) (.inr (h0 (i,0) (by simp) rfl)) rest.length listed a w inv (Region.free_spec an aR.1.1) a5 bb
   (iJ t l q hQ rest _ _ _ (inv.set a5) aR.2 (fun p hp=>h0 p (by simp[hp])) (fun p hp=>au p (by simp[hp])) (fun p hp=>aU p (by simp[hp])) h)
 | (i,3)::rest,listed,a,w,inv,aR,h0,au,aU,h=>by
  obtain⟨o,v,an,bb,h⟩:=h;simp only[lx,Bool.and_eq_true] at aR;have a5:i∈Region.ready md ops listed:=by simpa using aR.1.2
  exact h6 (U:=fun _ _=>True) (fun _ _ _ _ _=>trivial) l (fun _=>trivial) an q (fun c a w=>hQ c a _ _ w) (.inl fun _ _=>trivial) rest.length listed a w inv (Region.free_spec an aR.1.1) a5 bb
   (iJ t l q hQ rest _ _ _ (inv.set a5) aR.2 (fun p hp=>h0 p (by simp[hp])) (fun p hp=>au p (by simp[hp])) (fun p hp=>aU p (by simp[hp])) h)
 | (i,1)::rest,listed,a,w,inv,aR,h0,au,aU,h=>by
  obtain⟨o,an,h⟩:=h;simp only[lx,Bool.and_eq_true,beq_iff_eq] at aR;have a5:i∈Region.ready md ops listed:=by rw[aR.1];simp
  refine⟨fun h0=>(by rw[h0] at a5;cases a5),fun j bi=>?_⟩;rw[aR.1] at bi;have az:j=i:=by simpa using bi
  subst az;have g:=h (fun r ab=>(T j=true→R w ab)∧j7 P md ops Q R T rest.length (listed.setIfInBounds j true) r ab) fun r ab cA hp=>
   ⟨fun hT=>cA rfl,iJ t l q hQ rest _ _ _ (inv.set a5) aR.2 (fun p hp=>h0 p (by simp[hp])) (fun p hp=>au p (by simp[hp])) (fun p hp=>aU p (by simp[hp])) hp⟩
  unfold Go.wpOp;simp only[an];split
  ·rename_i hw;rw[if_pos hw] at g;exact .inl g
  ·rename_i hw;rw[if_neg hw] at g
   exact g
 | (i,2)::rest,listed,a,w,inv,aR,h0,au,aU,h=>by
  obtain⟨o,an,h⟩:=h;simp only[lx,Bool.and_eq_true,beq_iff_eq] at aR;have a5:i∈Region.ready md ops listed:=by rw[aR.1];simp
  refine⟨fun h0=>(by rw[h0] at a5;cases a5),fun j bi=>?_⟩;rw[aR.1] at bi;have az:j=i:=by simpa using bi
  subst az;have m:T j=false:=au (j,2) (by simp) rfl;have g:=h (fun r ab=>(T j=true→R w ab)∧j7 P md ops Q R T rest.length (listed.setIfInBounds j true) r ab) fun r ab _ hp=>
   ⟨fun hT=>(by rw[m] at hT;cases hT),iJ t l q hQ rest _ _ _ (inv.set a5) aR.2 (fun p hp=>h0 p (by simp[hp])) (fun p hp=>au p (by simp[hp])) (fun p hp=>aU p (by simp[hp])) hp⟩
  unfold Go.wpOp;simp only[an];split
  ·rename_i hw;rw[if_pos hw] at g;exact .inl g
  ·rename_i hw;rw[if_neg hw] at g
   exact g
 | (i,k+4)::rest,listed,a,w,inv,aR,h0,au,aU,h=>absurd (aU (i,k+4) (by simp)) (by simp)
theorem kK(R:World→World→Prop)(e:List (Nat×Nat)){id:Nat}{a:Act}{w:World}(hm:P.follows .mixedOrders=true)(aR:wj .any ops e=true)
  (l:∀a,R a a) (t:∀a b c,R a b→R b c→R a c) (hQ:∀c a d v w,Q (.panic c) (a.put d v) w→Q (.panic c) a w)
  (h:b5 P ops Q R e a w.drew):(Code.region id ops true).wp P Q a w:=by
 simp only[wj,Bool.and_eq_true,beq_iff_eq] at aR;obtain⟨⟨⟨⟨hs,hl⟩,aU⟩,ht⟩,hp⟩:=aR;refine wp_region_any hm (me (R:=R) (T:=fun j=>!(mT e).contains j) _ _ _ _ ?_);rw[←hl];refine iJ t l (Region.noSelect_spec hs) hQ e _ a _ (fun j g _ bi=>?_) (by rw[hl];exact hp) (fun p fn m j bi=>?_) (fun p fn y=>?_) (fun p fn=>?_) h
 ·rw[getD_replicate_false] at bi;cases bi
 ·have ac:=List.all_eq_true.1 ht p fn;rw[m] at ac;have f:j∈mT e:=by simpa using bi
  have au:((mT e).all fun j=>C2 .any ops ops.size j p.1)=true:=by simpa using ac
  exact⟨_,List.all_eq_true.1 au j f⟩
 ·have:p.1∈mT e:=List.mem_map.2 ⟨p,List.mem_filter.2 ⟨fn,by simpa using y⟩,rfl⟩;simpa using this
 ·exact List.all_eq_true.1 aU p fn |> of_decide_eq_true
theorem bO{i:Nat}{o:Oper}{v:Value}{rest:List (Nat×Nat)}{a:Act}{w:World}(an:ops[i]?=some o)(hw:Region.wanted o (yielded ops a.tmps)=true)
  (bI:∀V,R w V→(execOp a.eval o).run P V=.ok (.value v) V) (h:b5 P ops Q R rest (a.put o.dst v) w):b5 P ops Q R ((i,0)::rest) a w:=
 ⟨o,v,an,.inl ⟨hw,bI⟩,h⟩
theorem ib{i:Nat}{o:Oper}{rest:List (Nat×Nat)}{a:Act}{w:World}(an:ops[i]?=some o)(hw:Region.wanted o (yielded ops a.tmps)=false)
  (h:b5 P ops Q R rest (a.put o.dst undef) w):b5 P ops Q R ((i,0)::rest) a w:=
 ⟨o,undef,an,.inr ⟨hw,rfl⟩,h⟩
theorem br{i:Nat}{o:Oper}{v:Value}{rest:List (Nat×Nat)}{a:Act}{w:World}(an:ops[i]?=some o)(hw:Region.wanted o (yielded ops a.tmps)=true)
  (bI:∀V,(execOp a.eval o).run P V=.ok (.value v) V) (h:b5 P ops Q R rest (a.put o.dst v) w):b5 P ops Q R ((i,3)::rest) a w:=
 ⟨o,v,an,.inl ⟨hw,fun V _=>bI V⟩,h⟩
theorem dm{i:Nat}{o:Oper}{rest:List (Nat×Nat)}{a:Act}{w:World}(an:ops[i]?=some o)(hw:Region.wanted o (yielded ops a.tmps)=false)
  (h:b5 P ops Q R rest (a.put o.dst undef) w):b5 P ops Q R ((i,3)::rest) a w:=
 ⟨o,undef,an,.inr ⟨hw,rfl⟩,h⟩
theorem aI{i:Nat}{o:Oper}{rest:List (Nat×Nat)}{a:Act}{w:World}(an:ops[i]?=some o)
  (h:∀K:Act→World→Prop,(∀r ab,R w ab→b5 P ops Q R rest r ab→K r ab)→if Region.wanted o (yielded ops a.tmps)=true then o.wp P a w K Q else K (a.put o.dst undef) w) :
  b5 P ops Q R ((i,1)::rest) a w:=
 ⟨o,an,fun K hK=>h K fun r ab cA hp=>hK r ab (fun _=>cA) hp⟩
theorem ax{i:Nat}{o:Oper}{rest:List (Nat×Nat)}{a:Act}{w:World}(an:ops[i]?=some o)
  (h:∀K:Act→World→Prop,(∀r ab,b5 P ops Q R rest r ab→K r ab)→if Region.wanted o (yielded ops a.tmps)=true then o.wp P a w K Q else K (a.put o.dst undef) w) :
  b5 P ops Q R ((i,2)::rest) a w:=
 ⟨o,an,fun K hK=>h K fun r ab hp=>hK r ab (fun h=>absurd h (by decide)) hp⟩
theorem aE{a:Act}{w:World}(h:Q .normal a w):b5 P ops Q R [] a w:=h
end
inductive PT where
 | stop
 | free (i:Nat) (rest:PT)
 | held (i:Nat) (rest:PT)
 | pick (is:List Nat) (f:Nat→PT)
section
variable {P:Program} {ops:Array Oper} {Q:Exit→Act→World→Prop} {md:Region.Mode} {R:World→World→Prop}
def cN(P:Program)(ops:Array Oper)(Q:Exit→Act→World→Prop)(R:World→World→Prop)(tails:List Nat):PT→Act→World→Prop
 | .stop,a,w=>Q .normal a w
 | .free i rest,a,w=>∃o v,ops[i]?=some o∧YieldsIf P ops (fun _=>True) o v a∧cN P ops Q R tails rest (a.put o.dst v) w
 | .held i rest,a,w=>∃o v,ops[i]?=some o∧YieldsIf P ops (R w) o v a∧cN P ops Q R tails rest (a.put o.dst v) w
 | .pick is f,a,w=>∀i∈is,∃o,ops[i]?=some o∧∀K:Act→World→Prop,(∀r ab,(tails.contains i=false→R w ab)→cN P ops Q R tails (f i) r ab→K r ab)→
   (if Region.wanted o (yielded ops a.tmps)=true then o.wp P a w K Q else K (a.put o.dst undef) w)
def mV(md:Region.Mode)(ops:Array Oper):PT→Nat→Array Bool→Bool
 | .stop,n,listed=>n == 0 && (Region.ready md ops listed).isEmpty
 | .free i rest,n,listed=>decide (0<n) && (Region.free md ops listed i && (Region.ready md ops listed).contains i && mV md ops rest (n - 1) (listed.setIfInBounds i true))
 | .held i rest,n,listed=>decide (0<n) && (Region.free md ops listed i && (Region.ready md ops listed).contains i && mV md ops rest (n - 1) (listed.setIfInBounds i true))
 | .pick is f,n,listed=>decide (0<n) && (!is.isEmpty && (Region.ready md ops listed == is) && is.all fun i=>mV md ops (f i) (n - 1) (listed.setIfInBounds i true))
def PT.nT:PT→List Nat
 | .stop=>[]
 | .free _ rest=>rest.nT
 | .held i rest=>i::rest.nT
 | .pick is f=>is.flatMap fun i=>(f i).nT
def wK(md:Region.Mode)(ops:Array Oper)(tails:List Nat)(p:PT):Bool:=
 Region.noSelect ops && (p.nT.all fun i=>tails.all fun j=>C2 md ops ops.size j i) && mV md ops p ops.size (Array.replicate ops.size false)
theorem wP(tails:List Nat)(t:∀a b c,R a b→R b c→R a c)(l:∀a,R a a)(q:∀(j:Nat) (o:Oper) cs b,ops[j]?=some o→o.op≠.select cs b)
  (hQ:∀c a d v w,Q (.panic c) (a.put d v) w→Q (.panic c) a w) :
  ∀(p:PT) (n:Nat) (listed:Array Bool) (a:Act) (w:World),jM md ops listed→mV md ops p n listed=true→
   (∀i∈p.nT,∀j∈tails,∃f,C2 md ops f j i=true)→cN P ops Q R tails p a w→j7 P md ops Q R (fun j=>!tails.contains j) n listed a w:=by
 intro p
 induction p with
 | stop=>
  intro n listed a w _ aR _ h;simp only[mV,Bool.and_eq_true,beq_iff_eq] at aR;obtain⟨rfl,aR⟩:=aR
  exact⟨by simpa using aR,h⟩
 | free i rest ao=>
  intro n listed a w inv aR ag h;obtain⟨o,v,an,bb,h⟩:=h;simp only[mV,Bool.and_eq_true,decide_eq_true_eq] at aR;obtain⟨hn,⟨J,hc⟩,aR⟩:=aR;obtain⟨m,rfl⟩:∃m,n=m+1:=⟨n - 1,by omega⟩
  have a5:i∈Region.ready md ops listed:=by simpa using hc
  exact h6 (U:=fun _ _=>True) (fun _ _ _ _ _=>trivial) l (fun _=>trivial) an q (fun c a w=>hQ c a _ _ w) (.inl fun _ _=>trivial) m listed a w inv (Region.free_spec an J) a5 bb
   (ao m _ _ _ (inv.set a5) aR ag h)
 | held i rest ao=>
  intro n listed a w inv aR ag h;obtain⟨o,v,an,bb,h⟩:=h;simp only[mV,Bool.and_eq_true,decide_eq_true_eq] at aR;obtain⟨hn,⟨J,hc⟩,aR⟩:=aR;obtain⟨m,rfl⟩:∃m,n=m+1:=⟨n - 1,by omega⟩
  have a5:i∈Region.ready md ops listed:=by simpa using hc
  refine h6 (U:=R) t l l an q (fun c a w=>hQ c a _ _ w) (.inr fun j bi=>ag i (by simp[PT.nT]) j (by simpa using bi)) m listed a w inv (Region.free_spec an J) a5 bb
   (ao m _ _ _ (inv.set a5) aR (fun i an=>ag i (by simp[PT.nT,an])) h)
 | pick is f ao=>
  intro n listed a w inv aR ag h;simp only[mV,Bool.and_eq_true,decide_eq_true_eq,beq_iff_eq] at aR;obtain⟨hn,⟨he,a5⟩,aR⟩:=aR;obtain⟨m,rfl⟩:∃m,n=m+1:=⟨n - 1,by omega⟩
  by_cases be:is=[]
  ·subst be;simp at he
  ·refine⟨fun h0=>absurd (by rw[←a5];exact h0) be,fun j bi=>?_⟩;have e:=bi;rw[a5] at bi;obtain⟨o,an,h⟩:=h j bi;have g:=h (fun r ab=>((fun j=>!tails.contains j) j=true→R w ab)∧j7 P md ops Q R (fun j=>!tails.contains j) m (listed.setIfInBounds j true) r ab) fun r ab cA hp=>
    ⟨fun hT=>cA (by simpa using hT),ao j m _ _ _ (inv.set e) (by simpa using List.all_eq_true.1 aR j bi) (fun i an=>ag i (by simp only[PT.nT,List.mem_flatMap];exact⟨j,bi,an⟩)) hp⟩
   unfold Go.wpOp;simp only[an];split
   ·rename_i hw;rw[if_pos hw] at g;exact .inl g
   ·rename_i hw;rw[if_neg hw] at g;exact g
theorem qE(R:World→World→Prop)(tails:List Nat)(p:PT){id:Nat}{a:Act}{w:World}(hm:P.follows .mixedOrders=true)(aR:wK .any ops tails p=true)
  (l:∀a,R a a) (t:∀a b c,R a b→R b c→R a c) (hQ:∀c a d v w,Q (.panic c) (a.put d v) w→Q (.panic c) a w)
  (h:cN P ops Q R tails p a w.drew):(Code.region id ops true).wp P Q a w:=by
 simp only[wK,Bool.and_eq_true] at aR;obtain⟨⟨hs,bx⟩,hp⟩:=aR;refine wp_region_any hm (me (R:=R) (T:=fun j=>!tails.contains j) _ _ _ _ ?_);refine wP tails t l (Region.noSelect_spec hs) hQ p ops.size _ a _ (fun j g _ bi=>?_) hp (fun i an j bi=>?_) h
 ·rw[getD_replicate_false] at bi;cases bi
 ·have ac:=List.all_eq_true.1 bx i an;exact⟨_,List.all_eq_true.1 ac j bi⟩
variable {tails:List Nat}
theorem cw{i:Nat}{o:Oper}{v:Value}{rest:PT}{a:Act}{w:World}(an:ops[i]?=some o)(hw:Region.wanted o (yielded ops a.tmps)=true)
  (bI:∀V,R w V→(execOp a.eval o).run P V=.ok (.value v) V) (h:cN P ops Q R tails rest (a.put o.dst v) w):cN P ops Q R tails (.held i rest) a w:=
 ⟨o,v,an,.inl ⟨hw,bI⟩,h⟩
theorem k8{i:Nat}{o:Oper}{v:Value}{rest:PT}{a:Act}{w:World}(an:ops[i]?=some o)(hw:Region.wanted o (yielded ops a.tmps)=true)
  (bI:∀V,(execOp a.eval o).run P V=.ok (.value v) V) (h:cN P ops Q R tails rest (a.put o.dst v) w):cN P ops Q R tails (.free i rest) a w:=
 ⟨o,v,an,.inl ⟨hw,fun V _=>bI V⟩,h⟩
def od(P:Program)(ops:Array Oper)(Q:Exit→Act→World→Prop)(R:World→World→Prop)(tails:List Nat)(i:Nat)(p:PT)(a:Act)(w:World):Prop:=
 ∃o,ops[i]?=some o∧∀K:Act→World→Prop,(∀r ab,(tails.contains i=false→R w ab)→cN P ops Q R tails p r ab→K r ab)→
   (if Region.wanted o (yielded ops a.tmps)=true then o.wp P a w K Q else K (a.put o.dst undef) w)
theorem aB{i:Nat}{o:Oper}{p:PT}{a:Act}{w:World}(an:ops[i]?=some o)
  (h:∀K:Act→World→Prop,(∀r ab,R w ab→cN P ops Q R tails p r ab→K r ab)→if Region.wanted o (yielded ops a.tmps)=true then o.wp P a w K Q else K (a.put o.dst undef) w)
  (hT:tails.contains i=false):od P ops Q R tails i p a w:=⟨o,an,fun K hK=>h K fun r ab cA=>hK r ab fun _=>cA⟩
theorem bM{i:Nat}{o:Oper}{p:PT}{a:Act}{w:World}(an:ops[i]?=some o)
  (h:∀K:Act→World→Prop,(∀r ab,cN P ops Q R tails p r ab→K r ab)→if Region.wanted o (yielded ops a.tmps)=true then o.wp P a w K Q else K (a.put o.dst undef) w)
  (hT:tails.contains i=true):od P ops Q R tails i p a w:=⟨o,an,fun K hK=>h K fun r ab hp=>hK r ab (fun h=>by rw[hT] at h;cases h) hp⟩
theorem ao{i:Nat}{f:Nat→PT}{a:Act}{w:World}(h:od P ops Q R tails i (f i) a w):cN P ops Q R tails (.pick [i] f) a w:=fun j bi=>by
 have:j=i:=by simpa using bi
 subst this;exact h
theorem aY{i j:Nat}{f:Nat→PT}{a:Act}{w:World}(h:od P ops Q R tails i (f i) a w)(au:od P ops Q R tails j (f j) a w):cN P ops Q R tails (.pick [i,j] f) a w:=fun k ap=>by
 simp only[List.mem_cons,List.not_mem_nil,or_false] at ap;rcases ap with rfl|rfl
 ·exact h
 ·exact au
theorem b3{a:Act}{w:World}(h:Q .normal a w):cN P ops Q R tails .stop a w:=h
theorem k9{rest:PT}{aa:Nat→Act}{C:Nat→World→Prop}{G:Prop}(h:(∀g V,C g V→cN P ops Q R tails rest (aa g) V)→G)(key:∀g V,C g V→cN P ops Q R tails rest (aa g) V):G:=h key
end
theorem ae{p:Prop}(h:p):Lr p:=h
theorem DF{a b:Int}{k:IntKind}(h:a=b):Value.int k a=Value.int k b:=by rw[h]
theorem ret_int{a b:Int}{k:IntKind}(h:a=b):Ending.returned (.int k a)=.returned (.int k b):=by rw[h]
theorem ret_bool{a b:Bool}(h:a=b):Ending.returned (.bool a)=.returned (.bool b):=by rw[h]
theorem aZ{α:Type}{l:List α}{k:Nat}{x:α}(h:l[k]?=some x):l.take (k+1)=l.take k++[x]:=by
 rw[List.take_add_one,h];rfl
theorem E9(x y:Int):(if y > x then y else x)=max x y:=by
 by_cases h:x≤y<;>simp[Int.max_def,h]<;>omega
theorem Fa(x y:Int):(if y<x then y else x)=min x y:=by
 by_cases h:x≤y<;>simp[Int.min_def,h]<;>omega
theorem gm(P:Program)(w:World)(a:Array TypeId)(t:TypeId)(k F:IntKind)(x y:Int):(Builtin.max_ a t #[.int k x,.int F y]).run P w=.ok (.int k (max x y)) w:=by
 rw[run_max_int2,E9]
theorem gp(P:Program)(w:World)(a:Array TypeId)(t:TypeId)(k F:IntKind)(x y:Int):(Builtin.min_ a t #[.int k x,.int F y]).run P w=.ok (.int k (min x y)) w:=by
 rw[run_min_int2,Fa]
theorem dG{B:Nat}{a w:World}(h:Below B a w)(n:Nat):Below B a (w.drewN n):=⟨h.os,h.tape,h.output,h.size,h.block⟩
def cx{α:Type}(E:World→Nat→α→List Value→Prop)(sz:Nat)(w:World)(B:Nat)(A:Lp)(n:Nat)(l:List α):Prop:=
 l.length=n∧(0<n→∃b o,A=some ⟨b,o,none⟩∧b<B∧∀k x,l[k]?=some x→∃cs:List Value,E w B x cs∧cs.length=sz∧∀j v,cs[j]?=some v→w.cell? ⟨b,o+k*sz+j,none⟩=some v)
section
variable {α:Type} {E:World→Nat→α→List Value→Prop} {sz:Nat} {w ab:World} {B q n:Nat} {A:Lp} {l:List α}
theorem cx.bN(A:Lp):cx E sz w B A 0 ([]:List α):=⟨rfl,fun h=>absurd h (by omega)⟩
theorem cx.ak(h:cx E sz w B A n l)(O:Below B w ab)(aw:∀x cs,E w B x cs→E ab B x cs):cx E sz ab B A n l:=by
 refine⟨h.1,fun hn=>?_⟩;obtain⟨b,o,bw,U,hc⟩:=h.2 hn;refine⟨b,o,bw,U,fun k x hx=>?_⟩;obtain⟨cs,he,hl,bi⟩:=hc k x hx;exact⟨cs,aw _ _ he,hl,fun j v bI=>(O.cell (p:=⟨b,_,none⟩) U).trans (bi j v bI)⟩
theorem cx.more(h:cx E sz w B A n l)(aR:B≤q)(aw:∀x cs,E w B x cs→E w q x cs):cx E sz w q A n l:=by
 refine⟨h.1,fun hn=>?_⟩;obtain⟨b,o,bw,U,hc⟩:=h.2 hn;refine⟨b,o,bw,by omega,fun k x hx=>?_⟩;obtain⟨cs,he,hl,bi⟩:=hc k x hx;exact⟨cs,aw _ _ he,hl,bi⟩
end
def EF{α:Type}(f:α→List Value):World→Nat→α→List Value→Prop:=fun _ _ x cs=>cs=f x
section
variable {α:Type} {f:α→List Value} {sz:Nat} {w ab:World} {B q n:Nat} {A:Lp} {l:List α}
theorem cx.ez(h:cx (EF f) sz w B A n l)(O:Below B w ab):cx (EF f) sz ab B A n l:=h.ak O fun _ _ h=>h
theorem cx.It(h:cx (EF f) sz w B A n l)(aR:B≤q):cx (EF f) sz w q A n l:=h.more aR fun _ _ h=>h
theorem cx.c8(h:cx (EF f) sz w B A n l)(O:Below B w ab)(aR:B≤q):cx (EF f) sz ab q A n l:=(h.ez O).It aR
theorem cx.H8(h:cx (EF f) sz w B A n l){k:Nat}(ap:k<n) :
  ∃b o x,A=some ⟨b,o,none⟩∧b<B∧l[k]?=some x∧(f x).length=sz∧∀j v,(f x)[j]?=some v→w.cell? ⟨b,o+k*sz+j,none⟩=some v:=by
 obtain⟨b,o,bw,O,hc⟩:=h.2 (by omega);have hm:l[k]?=some (l[k]'(by have:=h.1;omega)):=List.getElem?_eq_getElem _;obtain⟨cs,he,hl,bi⟩:=hc k _ hm;rw[EF] at he;subst he;exact⟨b,o,_,bw,O,hm,hl,bi⟩
theorem cx.some_(h:cx (EF f) sz w B A n l)(ap:0<n):∃b o,A=some ⟨b,o,none⟩∧b<B:=by
 obtain⟨b,o,bw,O,_⟩:=h.2 ap;exact⟨b,o,bw,O⟩
end
theorem fI{α:Type}(f:α→List Value)(sz:Nat):∀(l:List α),(∀x∈l,(f x).length=sz)→∀k x,l[k]?=some x→∀j,j<sz→(l.flatMap f)[k*sz+j]?=(f x)[j]?
 | [],_,k,x,h,_,_=>by simp at h
 | a::l,hs,0,x,h,j,bi=>by
  have bx:=hs a (by simp);simp only[List.getElem?_cons_zero,Option.some.injEq] at h;subst h;simp only[List.flatMap_cons,Nat.zero_mul,Nat.zero_add]
  rw[List.getElem?_append_left (by omega)]
 | a::l,hs,k+1,x,h,j,bi=>by
  have bx:=hs a (by simp);simp only[List.getElem?_cons_succ] at h;have ao:=fI f sz l (fun y bb=>hs y (by simp[bb])) k x h j bi;simp only[List.flatMap_cons];rw[List.getElem?_append_right (by rw[bx,Nat.succ_mul];omega),bx,←ao];congr 1
  rw[Nat.succ_mul];omega
theorem gi{α:Type}(f:α→List Value)(sz:Nat)(l:List α)(hs:∀x∈l,(f x).length=sz):(l.flatMap f).length=l.length*sz:=by
 induction l with
 | nil=>simp
 | cons a l ao=>
  rw[List.flatMap_cons,List.length_append,hs a (by simp),ao (fun x hx=>hs x (by simp[hx])),List.length_cons,Nat.succ_mul];omega
theorem b1{w:World}{base:Nat}{e:TypeId}{sz:Nat}{v:Value}{n:Nat}{xs:List Value}(h:w.ownsRow base e sz v n xs) :
  ∃A c,v=.slice A n c∧n≤c∧c≤maxLen∧(A=none→n=0∧c=0)∧∀a,A=some a→∃g,a=⟨g,0,none⟩∧base≤g∧g<w.heap.size:=by
 rcases h.2 with⟨rfl,rfl⟩|⟨g,cap,cur,rfl,O,a2,hn,hc,_⟩
 ·exact⟨none,0,rfl,Nat.le_refl _,by simp,fun _=>⟨rfl,rfl⟩,fun _ h=>nomatch h⟩
 ·exact⟨_,_,rfl,hn,hc,(fun h=>nomatch h),fun a h=>(by injection h with h;exact⟨g,h.symm,O,(Array.getElem?_eq_some_iff.1 a2).1⟩)⟩
theorem jE{α:Type}{f:α→List Value}{w:World}{base:Nat}{e:TypeId}{sz:Nat}{A:Lp}{n c:Nat}{l:List α}
  (h:w.ownsRow base e sz (.slice A n c) n (l.flatMap f)) (hs:∀x∈l,(f x).length=sz) (hl:l.length=n):cx (EF f) sz w w.heap.size A n l:=by
 refine⟨hl,fun hn=>?_⟩;rcases h.2 with⟨bI,h0⟩|⟨g,cap,cur,bI,_,a2,U,_,T,a⟩
 ·omega
 ·injection bI with bw _ _;subst bw;refine⟨g,0,rfl,(Array.getElem?_eq_some_iff.1 a2).1,fun k x hx=>⟨f x,rfl,hs x (List.mem_of_getElem? hx),fun j v bi=>?_⟩⟩;have r:j<sz:=by
   have:=hs x (List.mem_of_getElem? hx);have:=(List.getElem?_eq_some_iff.1 bi).1;omega
  have cm:k<l.length:=(List.getElem?_eq_some_iff.1 hx).1;have cd:=fI f sz l hs k x hx j r;rw[bi,←a,List.getElem?_take] at cd;split at cd
  ·rw[cell_of_row w g _ cur e (0,0) a2,Nat.zero_add];simpa using cd
  ·cases cd
theorem yu{w ab:World}{base B:Nat}{e:TypeId}{sz:Nat}{v:Value}{n:Nat}{xs:List Value}(h:w.ownsRow base e sz v n xs)(O:Below B w ab)(aR:∀g,v.ownBlock=some g→g<B):ab.ownsRow base e sz v n xs:=by
 refine⟨h.1,?_⟩;rcases h.2 with au|⟨g,cap,cur,rfl,j,a2,rest⟩
 ·exact .inl au
 ·exact .inr ⟨g,cap,cur,rfl,j,(O.block g (aR g rfl)).trans a2,rest⟩
theorem b0{w ab:World}{base:Nat}{e:TypeId}{sz:Nat}{v:Value}{n:Nat}{xs:List Value}(h:w.ownsRow base e sz v n xs)(O:Below w.heap.size w ab):ab.ownsRow base e sz v n xs:=
 yu h O fun g a2=>(h.lt g a2).2
theorem ia{w:World}{base:Nat}{e:TypeId}{sz:Nat}{A:Lp}{n c:Nat}{xs:List Value}(h:w.ownsRow base e sz (.slice A n c) n xs)(hn:0<n) :
  ∃g,A=some ⟨g,0,none⟩∧base≤g∧g<w.heap.size∧(∀j u,xs[j]?=some u→w.cell? ⟨g,j,none⟩=some u)∧(∀j,w.frozen? ⟨g,j,none⟩=false)∧
   ∀j u,j<n*sz→(w.setCell ⟨g,j,none⟩ u).ownsRow base e sz (.slice A n c) n (xs.set j u):=by
 rcases h.2 with⟨bI,h0⟩|⟨g,cap,cur,bI,O,a2,U,v,T,a⟩
 ·omega
 ·injection bI with bw _ hc;subst bw hc;refine⟨g,rfl,O,(Array.getElem?_eq_some_iff.1 a2).1,fun j u hu=>?_,fun j=>?_,fun j u bi=>⟨by rw[List.length_set];exact h.1,.inr ⟨g,c,cur.setIfInBounds j u,rfl,O,?_,U,v,by simpa using T,?_⟩⟩⟩
  ·rw[←a,List.getElem?_take] at hu;split at hu
   ·rw[cell_of_row w g j cur e (0,0) a2];simpa using hu
   ·cases hu
  ·simp[World.frozen?,a2]
  ·simp[World.setCell,Array.getElem?_modify,a2]
  ·rw[←a,Array.toList_setIfInBounds,List.take_set]
theorem jT{α:Type}(f:α→List Value)(sz:Nat):∀(l:List α),(∀x∈l,(f x).length=sz)→∀k x,l[k]?=some x→∀j u y,j<sz→(f x).set j u=f y→(l.flatMap f).set (k*sz+j) u=(l.set k y).flatMap f
 | [],_,k,x,h,_,_,_,_,_=>by simp at h
 | a::l,hs,0,x,h,j,u,y,bi,bb=>by
  have bx:=hs a (by simp);simp only[List.getElem?_cons_zero,Option.some.injEq] at h;subst h;simp only[List.flatMap_cons,Nat.zero_mul,Nat.zero_add,List.set_cons_zero]
  rw[List.set_append_left _ _ (by omega),bb]
 | a::l,hs,k+1,x,h,j,u,y,bi,bb=>by
  have bx:=hs a (by simp);simp only[List.getElem?_cons_succ] at h;have ao:=jT f sz l (fun y bb=>hs y (by simp[bb])) k x h j u y bi bb;simp only[List.flatMap_cons,List.set_cons_succ];rw[List.set_append_right _ _ (by rw[bx,Nat.succ_mul];omega),bx,←ao];congr 2
  rw[Nat.succ_mul];omega
theorem rM{P:Program}(w:World)(t e:TypeId)(a:Lp)(n c aP aJ:Nat)(h:P.underlying t=some (.slice e)) :
  (binOp .eql t (.slice a n c) (.slice none aP aJ)).run P w=.ok (.bool a.isNone) w:=by
 have key:∀d:Nat,(Op.equalIn (d+1) t (.slice a n c) (.slice none aP aJ)).run P w=.ok a.isNone w:=fun d=>by
  rcases a with _|a<;>simp[Op.equalIn,run_underlying h]
 simp only[binOp];simp[Op.equal,Op.maxDepth,key 9999]
def Src(w:World)(sz:Nat)(A:Lp)(m:Nat)(news:List Value):Prop:=
 news.length=m*sz∧(∀u∈news,u.oneCell'=true)∧(0<m→∃b o,A=some ⟨b,o,none⟩∧∀j u,news[j]?=some u→w.cell? ⟨b,o+j,none⟩=some u)
theorem Src.one{w:World}{b:Nat}{u:Value}(h:w.cell? ⟨b,0,none⟩=some u)(ac:u.oneCell'=true):Src w 1 (some ⟨b,0,none⟩) 1 [u]:=
 ⟨rfl,by simpa using ac,fun _=>⟨b,0,rfl,fun j v bi=>by
  cases j with
  | zero=>simp at bi;subst bi;exact h
  | succ j=>simp at bi⟩⟩
theorem Src.block{w:World}{g:Nat}{e:TypeId}{xs:Array Value}{sz:Nat}(a2:w.heap[g]?=some (.cells xs e (0,0)))(m:Nat)(hm:xs.size=m*sz)(ac:∀u∈xs.toList,u.oneCell'=true) :
  Src w sz (some ⟨g,0,none⟩) m xs.toList:=
 ⟨by simpa using hm,ac,fun _=>⟨g,0,rfl,fun j u bi=>by
  rw[Nat.zero_add,cell_of_row w g j xs e (0,0) a2];simpa using bi⟩⟩
theorem Src.lv{α:Type}{f:α→List Value}{sz:Nat}{w:World}{B n:Nat}{A:Lp}{l:List α}(h:cx (EF f) sz w B A n l)(hs:∀x∈l,(f x).length=sz)(ac:∀x∈l,∀u∈f x,u.oneCell'=true)(bt:0<sz) :
  Src w sz A n (l.flatMap f):=by
 refine⟨by rw[gi f sz l hs,h.1],fun u hu=>?_,fun hn=>?_⟩
 ·obtain⟨x,hx,hu⟩:=List.mem_flatMap.1 hu;exact ac x hx u hu
 ·obtain⟨b,o,bw,_,hc⟩:=h.2 hn;refine⟨b,o,bw,fun j u bi=>?_⟩;have aU:=(List.getElem?_eq_some_iff.1 bi).1;rw[gi f sz l hs] at aU;have cm:j / sz<l.length:=by rw[Nat.div_lt_iff_lt_mul bt];exact aU
  have hx:l[j / sz]?=some (l[j / sz]'cm):=List.getElem?_eq_getElem cm;have d:=Nat.mod_lt j bt;have a:j / sz*sz+j % sz=j:=Nat.div_add_mod' j sz;have cd:=fI f sz l hs _ _ hx (j % sz) d;rw[a,bi] at cd;obtain⟨cs,he,_,c⟩:=hc _ _ hx;rw[EF] at he;subst he;have:=c _ _ cd.symm
  rwa [Nat.add_assoc,a] at this
def ch(P:Program)(t e:TypeId)(z:Value)(size bytes:Nat):Prop:=
 ∃i,P.underlying t=some (.slice e)∧P.info? e=some i∧i.zero=some z∧i.size=size∧i.bytes=bytes∧z.cells.size=size∧0<size
theorem ch.mk'{P:Program}{t e:TypeId}{z:Value}{size bytes:Nat}(ht:P.underlying t=some (.slice e))(an:(P.info? e).map (fun i=>(i.zero,i.size,i.bytes))=some (some z,size,bytes))(bt:z.cells.size=size)(h0:0<size):ch P t e z size bytes:=by
 obtain⟨i,ac,au,aU,bE⟩:=info_parts an;exact⟨i,ht,ac,au,aU,bE,bt,h0⟩
section
variable {P:Program} (w:World)
theorem uv(base:Nat)(t ty e:TypeId)(i:TypeInfo)(size:Nat)(ht:P.underlying t=some (.slice e))(an:P.info? e=some i)
  (v:Value) (n:Nat) (xs:List Value) (aB:w.ownsRow base e size v n xs) (c:Nat):(Builtin.append_ #[t,t] ty #[v,.slice none 0 c]).run P w=.ok v w:=by
 rcases aB.2 with⟨rfl,rfl⟩|⟨g,cap,cur,rfl,_,_,U,_⟩
 ·simp[Builtin.append_,run_underlying ht,sizeOf,typeInfo,an,Builtin.lenOf,Builtin.firstCells]
 ·simp[Builtin.append_,run_underlying ht,sizeOf,typeInfo,an,Builtin.lenOf,Builtin.firstCells,U,storeCells]
theorem Fz{t e:TypeId}{z:Value}{size bytes:Nat}(bw:ch P t e z size bytes)(base:Nat)(ty:TypeId)(v:Value)(n:Nat)(xs:List Value)(aB:w.ownsRow base e size v n xs)
  (A:Lp) (m c:Nat) (news:List Value) (hs:Src w size A m news) (r:(n+m)*bytes≤140737488355328) (y:n+m≤140737488355328) (C:base≤w.heap.size) (d:A=none→m=0) :
  ∃G ab,(Builtin.append_ #[t,t] ty #[v,.slice A m c]).run P w=.ok G ab∧ab.ownsRow base e size G (n+m) (xs++news)∧w.grownBy ab v.ownBlock∧
   (G.ownBlock=v.ownBlock∨G.ownBlock=some w.heap.size):=by
 obtain⟨i,ht,an,bt,g,U,cQ,bZ⟩:=bw;rcases A with _|a
 ·have hm:=d rfl;subst hm;have hn:news=[]:=List.eq_nil_of_length_eq_zero (by simpa using hs.1);subst hn;exact⟨v,w,uv w base t ty e i size ht an v n xs aB c,by simpa using aB,World.grownBy.refl w _,.inl rfl⟩
 ·have aZ:∀j u,news[j]?=some u→w.cell? (a.add j)=some u:=by
   intro j u hu;rcases Nat.eq_zero_or_pos m with h0|h0
   ·subst h0;have hn:news=[]:=List.eq_nil_of_length_eq_zero (by simpa using hs.1);subst hn;simp at hu
   ·obtain⟨b,o,h,hc⟩:=hs.2.2 h0;injection h with h;subst h;have:=hc j u hu;by_cases bi:j=0
    ·subst bi;simpa[Addr.add] using this
    ·simpa[Addr.add,bi] using this
  obtain⟨G,ab,k,au,aU,_,cF⟩:=run_append_own_at (P:=P) w base t ty e i z size bytes ht an bt g U cQ bZ v n xs aB a m c news hs.1 aZ hs.2.1 (by simp only[maxLen];omega) r C;exact⟨G,ab,k,au,aU,cF⟩
theorem j8{o:Oper}{a:Act}{K:Act→World→Prop}{Q:Exit→Act→World→Prop}{t e:TypeId}{z:Value}{size bytes:Nat}(bw:ch P t e z size bytes)(s x:Operand)
  (bn:o.op=.call {callee:=.builtin .append,args:=#[s,x],argTypes:=#[t,t]})
  (base:Nat) (v:Value) (n:Nat) (xs:List Value) (hs:a.eval s=v) (aB:w.ownsRow base e size v n xs)
  (A:Lp) (m c:Nat) (news:List Value) (hx:a.eval x=.slice A m c) (a5:Src w size A m news)
  (r:(n+m)*bytes≤140737488355328) (y:n+m≤140737488355328) (C:base≤w.heap.size) (d:A=none→m=0)
  (h:∀G ab,ab.ownsRow base e size G (n+m) (xs++news)→w.grownBy ab v.ownBlock→(G.ownBlock=v.ownBlock∨G.ownBlock=some w.heap.size)→K (a.put o.dst G) ab):o.wp P a w K Q:=by
 obtain⟨G,ab,k,au,aU,bE⟩:=Fz (P:=P) w bw base o.type v n xs aB A m c news a5 r y C d;unfold Oper.wp execOp;simp only[bn,resolve,invoke,builtin,Sem.run_bind,Sem.run_pure,Result.andThen_ok,List.map_toArray,List.map_cons,List.map_nil,hs,hx,k];exact h G ab au aU bE
theorem qB{ops:Array Oper}{rest:List Oper}{o:Oper}{a:Act}{Q:Exit→Act→World→Prop}{t e:TypeId}{z:Value}{size bytes:Nat}(bw:ch P t e z size bytes)(i:o.guard=none)(s x:Operand)
  (bn:o.op=.call {callee:=.builtin .append,args:=#[s,x],argTypes:=#[t,t]})
  (base:Nat) (v:Value) (n:Nat) (xs:List Value) (hs:a.eval s=v) (aB:w.ownsRow base e size v n xs)
  (A:Lp) (m c:Nat) (news:List Value) (hx:a.eval x=.slice A m c) (a5:Src w size A m news)
  (r:(n+m)*bytes≤140737488355328) (y:n+m≤140737488355328) (C:base≤w.heap.size) (d:A=none→m=0)
  (h:∀G ab,ab.ownsRow base e size G (n+m) (xs++news)→w.grownBy ab v.ownBlock→(G.ownBlock=v.ownBlock∨G.ownBlock=some w.heap.size)→wpList P ops Q rest (a.put o.dst G) ab):wpList P ops Q (o::rest) a w:=
 wpList_plain i fun _ hK=>j8 w bw s x bn base v n xs hs aB A m c news hx a5 r y C d fun G ab au aU bE=>hK _ _ (h G ab au aU bE)
end
theorem dk{P:Program}(S:World){ops:Array Oper}{rest:List Oper}{o:Oper}{a:Act}{Q:Exit→Act→World→Prop}{t e:TypeId}{z:Value}{size bytes:Nat}(bw:ch P t e z size bytes)(i:o.guard=none)(s x:Operand)
  (bn:o.op=.call {callee:=.builtin .append,args:=#[s,x],argTypes:=#[t,t]})
  (base:Nat) (v:Value) (n:Nat) (xs:List Value) (cs:Array Value) (hs:a.eval s=v) (aB:S.ownsRow base e size v n xs)
  (hx:a.eval x=.slice (some ⟨S.heap.size,0,none⟩) 1 1) (T:cs.size=size) (ac:∀u∈cs.toList,u.oneCell'=true)
  (r:(n+1)*bytes≤140737488355328) (y:n+1≤140737488355328) (C:base≤S.heap.size)
  (h:∀G ab,ab.ownsRow base e size G (n+1) (xs++cs.toList)→S.grownBy ab v.ownBlock→(G.ownBlock=v.ownBlock∨G.ownBlock=some (S.heap.size+1))→wpList P ops Q rest (a.put o.dst G) ab):wpList P ops Q (o::rest) a (S.alloc (.cells cs e)):=by
 refine qB _ bw i s x bn base v n xs hs (aB.alloc _) _ 1 1 cs.toList hx (Src.block (heap_alloc_new S _) 1 (by omega) ac) r y (by simp;omega) (fun h=>nomatch h) fun G ab au aU bE=>?_;refine h G ab au ⟨aU.os,aU.tape,aU.output,by have:=aU.size;simp at this;omega,fun k ap be=>(aU.block k (by simp;omega) be).trans (Below.heap_alloc S _ k ap)⟩ ?_;simpa using bE
theorem Src.on{w ab:World}{sz m:Nat}{A:Lp}{news:List Value}(h:Src w sz A m news)(O:Below w.heap.size w ab):Src ab sz A m news:=by
 refine⟨h.1,h.2.1,fun hm=>?_⟩;obtain⟨b,o,bw,hc⟩:=h.2.2 hm;refine⟨b,o,bw,fun j u bi=>?_⟩;have c:=hc j u bi;exact(O.cell (p:=⟨b,o+j,none⟩) (World.block_lt_of_cell? w _ c)).trans c
theorem fU{P:Program}(S:World){ops:Array Oper}{rest:List Oper}{o:Oper}{a:Act}{Q:Exit→Act→World→Prop}{t e:TypeId}{z:Value}{size bytes:Nat}(bw:ch P t e z size bytes)(i:o.guard=none)(s x:Operand)
  (bn:o.op=.call {callee:=.builtin .append,args:=#[s,x],argTypes:=#[t,t]})
  (hs:a.eval s=.slice (some ⟨S.heap.size,0,none⟩) 0 0) (A:Lp) (m c:Nat) (news:List Value) (hx:a.eval x=.slice A m c) (a5:Src S size A m news)
  (r:m*bytes≤140737488355328) (y:m≤140737488355328) (d:A=none→m=0)
  (h:∀I aJ ab,ab.ownsRow S.heap.size e size (.slice I m aJ) m news→Below S.heap.size S ab→wpList P ops Q rest (a.put o.dst (.slice I m aJ)) ab):wpList P ops Q (o::rest) a (S.alloc (.cells #[] e)):=by
 have aB:(S.alloc (.cells #[] e)).ownsRow S.heap.size e size (.slice (some ⟨S.heap.size,0,none⟩) 0 0) 0 []:=World.ownsRow_made S #[] 0 (Nat.le_refl _) (Nat.zero_le _) (by simp);refine qB _ bw i s x bn S.heap.size _ 0 [] hs aB A m c news hx (a5.on ((Below.refl _ _).alloc (Nat.le_refl _) _)) (by rw[Nat.zero_add];exact r) (by omega) (by simp) d fun G ab au aU bE=>?_;simp only[Nat.zero_add,List.nil_append] at au;have O:Below S.heap.size S ab:=((Below.refl _ _).alloc (Nat.le_refl _) _).grown aU (by simp) (by simp[Value.ownBlock]);obtain⟨I,aJ,rfl,_⟩:=b1 au;exact h I aJ ab au O
theorem fO{B:Nat}{a w ab:World}{base:Nat}{e:TypeId}{sz:Nat}{v:Value}{n:Nat}{xs:List Value}(h:Below B a w)(aB:w.ownsRow base e sz v n xs)(a2:w.grownBy ab v.ownBlock)(aR:B≤base)(cd:B≤w.heap.size):Below B a ab:=
 h.grown a2 cd fun k ap=>Nat.le_trans aR (aB.lt k ap).1
section
variable {P:Program} {t e:TypeId} {z:Value} {size bytes:Nat}
theorem run_mk(bw:ch P t e z size bytes)(kl kc:IntKind)(n:Nat)(O:bytes*n≤281474976710656)(y:n≤281474976710656)(w:World) :
  (Instr.makeSlice t (.int kl (n:Int)) (.int kc (n:Int))).run P w=.ok (.slice (some ⟨w.heap.size,0,none⟩) n n) (w.alloc (.cells (madeCells z.cells (n*size)) e)):=by
 obtain⟨i,ht,an,bt,g,U,cQ,bZ⟩:=bw;have a:(i.bytes:Int)*(n:Int)≤281474976710656:=by
  have h:((i.bytes*n:Nat):Int)≤281474976710656:=by rw[U];omega
  rwa [Int.natCast_mul] at h
 have a5:=run_make (P:=P) w t e i z ht an bt kl kc n n (by omega) (by omega) a (by omega);simp only[Int.toNat_natCast] at a5;rw[a5,g]
theorem rB{α:Type}{f:α→List Value}{x:α}{zc:Array Value}{sz:Nat}(bt:zc.toList=f x)(hs:(f x).length=sz)(h0:0<sz)(n:Nat):(madeCells zc (n*sz)).toList=(List.replicate n x).flatMap f:=by
 have cQ:zc.size=sz:=by rw[←Array.length_toList,bt,hs]
 apply List.ext_getElem?
 intro j;by_cases bi:j<n*sz
 ·have ap:j / sz<n:=by rw[Nat.div_lt_iff_lt_mul h0];exact bi
  have hm:=Nat.mod_lt j h0;have hx:(List.replicate n x)[j / sz]?=some x:=by rw[List.getElem?_replicate,if_pos ap]
  have:=fI f sz (List.replicate n x) (fun y bb=>by rw[(List.mem_replicate.1 bb).2];exact hs) _ _ hx _ hm;rw[Nat.div_add_mod'] at this;rw[this,←bt];have a7:j % zc.size<zc.size:=by rw[cQ];exact hm
  simp only[madeCells,Array.getElem?_toList,Array.getElem?_map,Array.getElem?_range,bi,if_pos,Option.map_some];rw[←cQ,getElem!_pos zc _ a7,Array.getElem?_eq_getElem a7]
 ·rw[List.getElem?_eq_none (by rw[Array.length_toList,size_madeCells];omega),List.getElem?_eq_none (by rw[gi f sz _ (fun y bb=>by rw[(List.mem_replicate.1 bb).2];exact hs),List.length_replicate];omega)]
theorem wg{α:Type}{f:α→List Value}{x:α}{zc:Array Value}{sz:Nat}(bt:zc.toList=f x)(hs:(f x).length=sz)(h0:0<sz)(n:Nat)(hn:n≤281474976710656){w:World}{base:Nat}(O:base≤w.heap.size) :
  (w.alloc (.cells (madeCells zc (n*sz)) e)).ownsRow base e sz (.slice (some ⟨w.heap.size,0,none⟩) n n) n ((List.replicate n x).flatMap f):=by
 rw[←rB bt hs h0 n];exact World.ownsRow_lit w _ n O (by unfold maxLen;omega) (size_madeCells _ _)
end
def cT(x:Int):List Value:=[.int .i64 x]
def oh(x:ByteArray):List Value:=[.string x]
theorem cx.int{w:World}{B n:Nat}{A:Lp}{l:List Int}(h:cx (EF cT) 1 w B A n l){k:Nat}(ap:k<n) :
  ∃b o x,A=some ⟨b,o,none⟩∧b<B∧l[k]?=some x∧w.cell? ⟨b,o+k,none⟩=some (.int .i64 x):=by
 obtain⟨b,o,x,bw,O,hx,_,hc⟩:=h.H8 ap;have:=hc 0 _ rfl;simp only[Nat.mul_one,Nat.add_zero] at this;exact⟨b,o,x,bw,O,hx,this⟩
theorem cx.str{w:World}{B n:Nat}{A:Lp}{l:Lq}(h:cx (EF oh) 1 w B A n l){k:Nat}(ap:k<n) :
  ∃b o x,A=some ⟨b,o,none⟩∧b<B∧l[k]?=some x∧w.cell? ⟨b,o+k,none⟩=some (.string x):=by
 obtain⟨b,o,x,bw,O,hx,_,hc⟩:=h.H8 ap;have:=hc 0 _ rfl;simp only[Nat.mul_one,Nat.add_zero] at this;exact⟨b,o,x,bw,O,hx,this⟩
theorem tH(l:List Int):l.flatMap cT=l.map (Value.int .i64):=by
 induction l with
 | nil=>rfl
 | cons a l ao=>rw[List.flatMap_cons,ao];rfl
theorem ll(l:List Int)(x:Int):(l++[x]).flatMap cT=l.flatMap cT++[.int .i64 x]:=by
 rw[List.flatMap_append];rfl
theorem qa(k:IntKind)(x:Int):∀u∈(#[Value.int k x]:Array Value).toList,u.oneCell'=true:=by
 intro u hu;simp at hu;subst hu;rfl
theorem jA(l:List Int):∀x∈l,(cT x).length=1:=fun _ _=>rfl
theorem row_slr{k:IntKind}{w:World}{a:Lp}{len cap:Nat}{b:List Int}
  (h:(a=none∧len=0∧cap=0∧b=[])∨∃x,a=some x∧len≤cap∧cap≤maxLen∧b.length=cap∧(∀i,i<b.length→w.cell? (x.add i)=some (.int k (b.getD i 0)))∧∀n∈b,(Lit.int k n).wf=true) (ap:k=.i64) :
  cx (EF cT) 1 w w.heap.size a len (b.take len):=by
 subst ap;rcases h with⟨rfl,rfl,rfl,rfl⟩|⟨x,rfl,a2,_,bt,hc,_⟩
 ·exact cx.bN _
 ·refine⟨by simp;omega,fun hn=>?_⟩;have h0:=hc 0 (by omega);have hx:x.spot=none:=by
   have ac:w.cell? x=some (.int .i64 (b.getD 0 0)):=by simpa[Addr.add] using h0
   cases hs:x.spot with
   | none=>rfl
   | some s=>
    rw[World.cell?] at ac;split at ac
    ·rw[hs] at ac;simp at ac
    ·cases ac
  have T:=World.block_lt_of_cell? w _ h0;refine⟨x.block,x.off,by rw[←hx],by simpa[Addr.add] using T,fun j v bi=>⟨cT v,rfl,rfl,fun i u hu=>?_⟩⟩;have aU:=(List.getElem?_eq_some_iff.1 bi).1;rw[List.length_take] at aU;have c:=hc j (by omega);rw[List.getElem?_take] at bi;split at bi
  ·have bI:b.getD j 0=v:=by rw[List.getD_eq_getElem?_getD,bi];rfl
   rw[bI] at c;have an:i=0∧u=.int .i64 v:=by
    cases i with
    | zero=>simp[cT] at hu;exact⟨rfl,hu.symm⟩
    | succ i=>simp[cT] at hu
   obtain⟨rfl,rfl⟩:=an;have bx:x.add j=⟨x.block,x.off+j*1+0,none⟩:=by
    rw[Nat.mul_one,Nat.add_zero];unfold Addr.add;split
    ·rename_i dH;rw[dH,Nat.add_zero,←hx]
    ·rfl
   rw[bx] at c;exact c
  ·cases bi
theorem de:ch prog 22 3 (.int .i64 0) 1 8:=ch.mk' Tryz.underlying22 (by kernel_rfl) rfl (by omega)
inductive D where
 | i (n:Int)
 | b (x:Bool)
 | s (x:ByteArray)
 | st (l:List D)
 | sl (l:List D)
mutual
def D.rep(w:World)(P:Nat→Prop):D→List Value→Prop
 | .i n=>fun cs=>cs=[.int .i64 n]
 | .b x=>fun cs=>cs=[.bool x]
 | .s x=>fun cs=>cs=[.string x]
 | .st l=>fun cs=>D.aQ w P l cs
 | .sl l=>fun cs=>∃A c,cs=[.slice A l.length c]∧l.length≤c∧(0<l.length→∃b o xs,A=some ⟨b,o,none⟩∧P b∧D.aQ w P l xs∧∀j u,xs[j]?=some u→w.cell? ⟨b,o+j,none⟩=some u)
def D.aQ(w:World)(P:Nat→Prop):List D→List Value→Prop
 | []=>fun cs=>cs=[]
 | d::l=>fun cs=>∃x y,cs=x++y∧D.rep w P d x∧D.aQ w P l y
end
mutual
def D.sz:D→Nat
 | .i _=>1
 | .b _=>1
 | .s _=>1
 | .st l=>D.yF l
 | .sl _=>1
def D.yF:List D→Nat
 | []=>0
 | d::l=>D.sz d+D.yF l
end
mutual
theorem D.k5{w:World}{P:Nat→Prop}:∀(d:D) (cs:List Value),d.rep w P cs→cs.length=d.sz
 | .i n,cs,h=>by simp only[D.rep] at h;subst h;rfl
 | .b x,cs,h=>by simp only[D.rep] at h;subst h;rfl
 | .s x,cs,h=>by simp only[D.rep] at h;subst h;rfl
 | .st l,cs,h=>by simp only[D.rep] at h;simp only[D.sz];exact D.hb l cs h
 | .sl l,cs,h=>by simp only[D.rep] at h;obtain⟨A,c,rfl,_⟩:=h;rfl
theorem D.hb{w:World}{P:Nat→Prop}:∀(l:List D) (cs:List Value),D.aQ w P l cs→cs.length=D.yF l
 | [],cs,h=>by simp only[D.aQ] at h;subst h;rfl
 | d::l,cs,h=>by
  simp only[D.aQ] at h;obtain⟨x,y,rfl,hx,bb⟩:=h;simp only[D.yF,List.length_append,D.k5 d x hx,D.hb l y bb]
end
mutual
theorem D.aS{w ab:World}{P:Nat→Prop}(ap:∀b,P b→ab.heap[b]?=w.heap[b]?):∀(d:D) (cs:List Value),d.rep w P cs→d.rep ab P cs
 | .i n,cs,h=>by simpa only[D.rep] using h
 | .b x,cs,h=>by simpa only[D.rep] using h
 | .s x,cs,h=>by simpa only[D.rep] using h
 | .st l,cs,h=>by simp only[D.rep] at h ⊢;exact D.bU ap l cs h
 | .sl l,cs,h=>by
  simp only[D.rep] at h ⊢;obtain⟨A,c,T,hc,hn⟩:=h;refine⟨A,c,T,hc,fun h0=>?_⟩;obtain⟨b,o,xs,bw,O,a5,bi⟩:=hn h0;exact⟨b,o,xs,bw,O,D.bU ap l xs a5,fun j u hu=>(World.cell?_of_block (w:=w) (ap b O)).trans (bi j u hu)⟩
theorem D.bU{w ab:World}{P:Nat→Prop}(ap:∀b,P b→ab.heap[b]?=w.heap[b]?):∀(l:List D) (cs:List Value),D.aQ w P l cs→D.aQ ab P l cs
 | [],cs,h=>by simpa only[D.aQ] using h
 | d::l,cs,h=>by
  simp only[D.aQ] at h ⊢;obtain⟨x,y,rfl,hx,bb⟩:=h;exact⟨x,y,rfl,D.aS ap d x hx,D.bU ap l y bb⟩
end
mutual
theorem D.aL{w:World}{P c6:Nat→Prop}(hp:∀b,P b→c6 b):∀(d:D) (cs:List Value),d.rep w P cs→d.rep w c6 cs
 | .i n,cs,h=>by simpa only[D.rep] using h
 | .b x,cs,h=>by simpa only[D.rep] using h
 | .s x,cs,h=>by simpa only[D.rep] using h
 | .st l,cs,h=>by simp only[D.rep] at h ⊢;exact D.bV hp l cs h
 | .sl l,cs,h=>by
  simp only[D.rep] at h ⊢;obtain⟨A,c,T,hc,hn⟩:=h;refine⟨A,c,T,hc,fun h0=>?_⟩;obtain⟨b,o,xs,bw,O,a5,bi⟩:=hn h0;exact⟨b,o,xs,bw,hp b O,D.bV hp l xs a5,bi⟩
theorem D.bV{w:World}{P c6:Nat→Prop}(hp:∀b,P b→c6 b):∀(l:List D) (cs:List Value),D.aQ w P l cs→D.aQ w c6 l cs
 | [],cs,h=>by simpa only[D.aQ] using h
 | d::l,cs,h=>by
  simp only[D.aQ] at h ⊢;obtain⟨x,y,rfl,hx,bb⟩:=h;exact⟨x,y,rfl,D.aL hp d x hx,D.bV hp l y bb⟩
end
mutual
theorem D.sW{w:World}{P:Nat→Prop}:∀(d:D) (cs:List Value),d.rep w P cs→∀u∈cs,u.oneCell'=true
 | .i n,cs,h=>by simp only[D.rep] at h;subst h;simp[Value.oneCell']
 | .b x,cs,h=>by simp only[D.rep] at h;subst h;simp[Value.oneCell']
 | .s x,cs,h=>by simp only[D.rep] at h;subst h;simp[Value.oneCell']
 | .st l,cs,h=>by simp only[D.rep] at h;exact D.qo l cs h
 | .sl l,cs,h=>by simp only[D.rep] at h;obtain⟨A,c,rfl,_⟩:=h;simp[Value.oneCell']
theorem D.qo{w:World}{P:Nat→Prop}:∀(l:List D) (cs:List Value),D.aQ w P l cs→∀u∈cs,u.oneCell'=true
 | [],cs,h=>by simp only[D.aQ] at h;subst h;simp
 | d::l,cs,h=>by
  simp only[D.aQ] at h;obtain⟨x,y,rfl,hx,bb⟩:=h;intro u hu;rcases List.mem_append.1 hu with hu|hu
  ·exact D.sW d x hx u hu
  ·exact D.qo l y bb u hu
end
theorem D.cG{w:World}{P:Nat→Prop}:∀{l m:List D} {x y:List Value},D.aQ w P l x→D.aQ w P m y→D.aQ w P (l++m) (x++y)
 | [],m,x,y,hx,bb=>by simp only[D.aQ] at hx;subst hx;exact bb
 | d::l,m,x,y,hx,bb=>by
  simp only[D.aQ,List.cons_append] at hx ⊢;obtain⟨a,c,rfl,bx,hc⟩:=hx;exact⟨a,c++y,by rw[List.append_assoc],bx,D.cG hc bb⟩
theorem D.j2{w:World}{P:Nat→Prop}:∀{l m:List D} {x:List Value},D.aQ w P (l++m) x→∃y z,x=y++z∧D.aQ w P l y∧D.aQ w P m z
 | [],m,x,h=>⟨[],x,rfl,by simp only[D.aQ],h⟩
 | d::l,m,x,h=>by
  simp only[D.aQ,List.cons_append] at h;obtain⟨a,c,rfl,bx,hc⟩:=h;obtain⟨y,z,rfl,bb,bt⟩:=D.j2 hc;exact⟨a++y,z,by rw[List.append_assoc],by simp only[D.aQ];exact⟨a,y,rfl,bx,bb⟩,bt⟩
theorem D.bj{w:World}{P:Nat→Prop}{d:D}{x:List Value}:D.aQ w P [d] x↔d.rep w P x:=by
 simp only[D.aQ];constructor
 ·rintro⟨a,b,rfl,bx,rfl⟩;simpa using bx
 ·intro h;exact⟨x,[],by simp,h,rfl⟩
theorem D.gT{z:Nat}:∀{l:List D},(∀d∈l,d.sz=z)→D.yF l=l.length*z
 | [],_=>by simp[D.yF]
 | d::l,h=>by
  have ao:D.yF l=l.length*z:=D.gT (fun x hx=>h x (List.mem_cons_of_mem _ hx));simp only[D.yF,List.length_cons,Nat.succ_mul,h d (List.mem_cons_self),ao];omega
theorem D.oP{w:World}{P:Nat→Prop}{z:Nat}:∀{l:List D} {xs:List Value},D.aQ w P l xs→(∀d∈l,d.sz=z)→∀{k:Nat} {d:D},l[k]?=some d→
  ∃cs,d.rep w P cs∧cs.length=z∧∀j u,cs[j]?=some u→xs[k*z+j]?=some u
 | [],xs,_,_,k,d,ap=>by simp at ap
 | e::l,xs,h,bt,0,d,ap=>by
  simp only[D.aQ] at h;obtain⟨x,y,rfl,hx,_⟩:=h;simp only[List.getElem?_cons_zero,Option.some.injEq] at ap;subst ap;refine⟨x,hx,(D.k5 _ _ hx).trans (bt e (by simp)),fun j u hu=>?_⟩;rw[Nat.zero_mul,Nat.zero_add,List.getElem?_append_left (List.getElem?_eq_some_iff.1 hu).1]
  exact hu
 | e::l,xs,h,bt,k+1,d,ap=>by
  simp only[D.aQ] at h;obtain⟨x,y,rfl,hx,bb⟩:=h;simp only[List.getElem?_cons_succ] at ap;obtain⟨cs,a5,hl,bi⟩:=D.oP bb (fun x hx=>bt x (by simp[hx])) ap;have cm:=(D.k5 _ _ hx).trans (bt e (by simp));refine⟨cs,a5,hl,fun j u hu=>?_⟩;rw[List.getElem?_append_right (by rw[cm,Nat.succ_mul];omega),cm,show (k+1)*z+j - z=k*z+j by rw[Nat.succ_mul];omega];exact bi j u hu
def Sl(w:World)(P:Nat→Prop)(A:Lp)(n:Nat)(l:List D):Prop:=
 l.length=n∧(0<n→∃b o xs,A=some ⟨b,o,none⟩∧P b∧D.aQ w P l xs∧∀j u,xs[j]?=some u→w.cell? ⟨b,o+j,none⟩=some u)
section
variable {w ab:World} {P c6:Nat→Prop} {A:Lp} {n z:Nat} {l:List D}
theorem D.sY{cs:List Value}:(D.sl l).rep w P cs↔∃A c n,cs=[.slice A n c]∧n≤c∧Sl w P A n l:=by
 simp only[D.rep,Sl];constructor
 ·rintro⟨A,c,rfl,hc,h⟩;exact⟨A,c,_,rfl,hc,rfl,h⟩
 ·rintro⟨A,c,n,rfl,hc,rfl,h⟩;exact⟨A,c,rfl,hc,h⟩
theorem Sl.bN(A:Lp):Sl w P A 0 []:=⟨rfl,fun h=>absurd h (by omega)⟩
theorem Sl.ak(h:Sl w P A n l)(ap:∀b,P b→ab.heap[b]?=w.heap[b]?):Sl ab P A n l:=by
 refine⟨h.1,fun hn=>?_⟩;obtain⟨b,o,xs,bw,O,a5,bi⟩:=h.2 hn;exact⟨b,o,xs,bw,O,D.bU ap l xs a5,fun j u hu=>(World.cell?_of_block (w:=w) (ap b O)).trans (bi j u hu)⟩
theorem Sl.mono(h:Sl w P A n l)(hp:∀b,P b→c6 b):Sl w c6 A n l:=by
 refine⟨h.1,fun hn=>?_⟩;obtain⟨b,o,xs,bw,O,a5,bi⟩:=h.2 hn;exact⟨b,o,xs,bw,hp b O,D.bV hp l xs a5,bi⟩
theorem Sl.some_(h:Sl w P A n l)(hn:0<n):∃b o,A=some ⟨b,o,none⟩∧P b:=by
 obtain⟨b,o,xs,bw,O,_⟩:=h.2 hn;exact⟨b,o,bw,O⟩
theorem Sl.none_(h:Sl w P none n l):n=0:=by
 rcases Nat.eq_zero_or_pos n with h0|h0
 ·exact h0
 ·obtain⟨b,o,bw,_⟩:=h.some_ h0;cases bw
theorem Sl.at_(h:Sl w P A n l)(bt:∀d∈l,d.sz=z){k:Nat}(ap:k<n) :
  ∃b o d cs,A=some ⟨b,o,none⟩∧P b∧l[k]?=some d∧d.rep w P cs∧cs.length=z∧∀j u,cs[j]?=some u→w.cell? ⟨b,o+k*z+j,none⟩=some u:=by
 obtain⟨b,o,xs,bw,O,a5,bi⟩:=h.2 (by omega);have hm:l[k]?=some (l[k]'(by have:=h.1;omega)):=List.getElem?_eq_getElem _;obtain⟨cs,hd,hl,hc⟩:=D.oP a5 bt hm;exact⟨b,o,_,cs,bw,O,hm,hd,hl,fun j u hu=>by rw[Nat.add_assoc];exact bi _ u (hc j u hu)⟩
theorem Sl.g0{α:Type}{enc:α→D}{l:List α}(h:Sl w P A n (l.map enc))(bt:∀x,(enc x).sz=z){k:Nat}(ap:k<n) :
  ∃b o x cs,A=some ⟨b,o,none⟩∧P b∧l[k]?=some x∧(enc x).rep w P cs∧cs.length=z∧∀j u,cs[j]?=some u→w.cell? ⟨b,o+k*z+j,none⟩=some u:=by
 obtain⟨b,o,d,cs,bw,O,hd,a5,hl,hc⟩:=h.at_ (z:=z) (fun d hd=>by obtain⟨x,_,rfl⟩:=List.mem_map.1 hd;exact bt x) ap;rw[List.getElem?_map] at hd
 cases hx:l[k]? with
 | none=>rw[hx] at hd;cases hd
 | some x=>
  rw[hx] at hd;injection hd with hd;subst hd;exact⟨b,o,x,cs,bw,O,rfl,a5,hl,hc⟩
theorem Sl.take(h:Sl w P A n l){m:Nat}(hm:m≤n):Sl w P A m (l.take m):=by
 refine⟨by have:=h.1;simp;omega,fun h0=>?_⟩;obtain⟨b,o,xs,bw,O,a5,bi⟩:=h.2 (by omega);rw[←List.take_append_drop m l] at a5;obtain⟨y,cd,rfl,bb,_⟩:=D.j2 a5;exact⟨b,o,y,bw,O,bb,fun j u hu=>bi j u (by rw[List.getElem?_append_left (List.getElem?_eq_some_iff.1 hu).1];exact hu)⟩
theorem Sl.src(h:Sl w P A n l)(bt:∀d∈l,d.sz=z):∃xs,D.aQ w P l xs∧Src w z A n xs:=by
 rcases Nat.eq_zero_or_pos n with hn|hn
 ·subst hn;have:l=[]:=List.eq_nil_of_length_eq_zero h.1;subst this;exact⟨[],by simp only[D.aQ],by simp,by simp,fun h=>absurd h (by omega)⟩
 ·obtain⟨b,o,xs,bw,O,a5,bi⟩:=h.2 hn;exact⟨xs,a5,by rw[D.hb _ _ a5,D.gT bt,h.1],D.qo l xs a5,fun _=>⟨b,o,bw,bi⟩⟩
theorem Sl.p9{base:Nat}{e:TypeId}{c:Nat}{xs:List Value}(h:w.ownsRow base e z (.slice A n c) n xs)(a5:D.aQ w P l xs)(hl:l.length=n)(aZ:∀g,A=some ⟨g,0,none⟩→base≤g→g<w.heap.size→P g):Sl w P A n l:=by
 refine⟨hl,fun hn=>?_⟩;obtain⟨g,bw,O,a2,hc,_⟩:=ia h hn;exact⟨g,0,xs,bw,aZ g bw O a2,a5,fun j u hu=>by rw[Nat.zero_add];exact hc j u hu⟩
end
abbrev av(w:World):Nat→Prop:=fun b=>b<w.heap.size
theorem D.on{w ab:World}{d:D}{cs:List Value}(h:d.rep w (av w) cs)(O:Below w.heap.size w ab):d.rep ab (av ab) cs:=
 D.aL (fun _ ak=>Nat.lt_of_lt_of_le ak O.size) _ _ (D.aS (fun b ak=>O.block b ak) _ _ h)
theorem Sl.on{w ab:World}{A:Lp}{n:Nat}{l:List D}(h:Sl w (av w) A n l)(O:Below w.heap.size w ab):Sl ab (av ab) A n l:=
 (h.ak (fun b ak=>O.block b ak)).mono (fun _ ak=>Nat.lt_of_lt_of_le ak O.size)
structure Fr(M:Nat→Prop)(w ab:World):Prop where
 os:ab.os=w.os
 tape:ab.tape=w.tape
 output:ab.output=w.output
 size:w.heap.size≤ab.heap.size
 block:∀k,k<w.heap.size→¬M k→ab.heap[k]?=w.heap[k]?
abbrev Ext:World→World→Prop:=Fr fun _=>False
section
variable {M M':Nat→Prop} {a b c:World}
theorem Fr.refl(M:Nat→Prop)(w:World):Fr M w w:=⟨rfl,rfl,rfl,Nat.le_refl _,fun _ _ _=>rfl⟩
theorem Fr.trans(h:Fr M a b)(k:Fr M b c):Fr M a c:=
 ⟨k.os.trans h.os,k.tape.trans h.tape,k.output.trans h.output,Nat.le_trans h.size k.size,fun i an hn=>(k.block i (Nat.lt_of_lt_of_le an h.size) hn).trans (h.block i an hn)⟩
theorem Fr.mono(h:Fr M a b)(hM:∀k,M k→M' k):Fr M' a b:=⟨h.os,h.tape,h.output,h.size,fun k ap hn=>h.block k ap fun hm=>hn (hM k hm)⟩
theorem Fr.of(h:Below a.heap.size a b):Fr M a b:=⟨h.os,h.tape,h.output,h.size,fun k ap _=>h.block k ap⟩
theorem Fr.below{B:Nat}(h:Fr M a b)(aR:B≤a.heap.size)(hM:∀k,k<B→¬M k):Below B a b:=⟨h.os,h.tape,h.output,h.size,fun k ap=>h.block k (Nat.lt_of_lt_of_le ap aR) (hM k ap)⟩
theorem Fr.low(h:Fr M a b)(hM:∀k,M k→a.heap.size≤k):Ext a b:=⟨h.os,h.tape,h.output,h.size,fun k ap _=>h.block k ap fun hm=>by have:=hM k hm;omega⟩
theorem Fr.ext(h:Ext a b):Below a.heap.size a b:=h.below (Nat.le_refl _) fun _ _ h=>h
theorem Fr.drew(h:Fr M a b):Fr M a b.drew:=⟨h.os,h.tape,h.output,h.size,h.block⟩
theorem Fr.drewN(h:Fr M a b)(n:Nat):Fr M a (b.drewN n):=⟨h.os,h.tape,h.output,h.size,h.block⟩
theorem Fr.alloc(h:Fr M a b)(o:Obj):Fr M a (b.alloc o):=
 ⟨h.os,h.tape,h.output,by have:=h.size;simp;omega,fun k ap hn=>(Below.heap_alloc b o k (Nat.lt_of_lt_of_le ap h.size)).trans (h.block k ap hn)⟩
theorem Fr.setCell(h:Fr M a b){p:Addr}(hp:M p.block∨a.heap.size≤p.block)(v:Value):Fr M a (b.setCell p v):=by
 refine⟨h.os,h.tape,h.output,by simpa using h.size,fun k ap hn=>?_⟩;have:k≠p.block:=by
  rintro rfl;rcases hp with hp|hp
  ·exact hn hp
  ·omega
 rw[Below.heap_setCell _ _ _ _ this];exact h.block k ap hn
theorem Fr.eN(h:Fr M a b)(k:Below a.heap.size b c):Fr M a c:=
 ⟨k.os.trans h.os,k.tape.trans h.tape,k.output.trans h.output,Nat.le_trans h.size k.size,fun i an hn=>(k.block i an).trans (h.block i an hn)⟩
theorem Fr.grown{row:Option Nat}(h:Fr M a b)(a2:b.grownBy c row)(a5:∀g,row=some g→M g∨a.heap.size≤g):Fr M a c:=by
 refine⟨a2.os.trans h.os,a2.tape.trans h.tape,a2.output.trans h.output,Nat.le_trans h.size a2.size,fun k ap hn=>?_⟩;refine(a2.block k (Nat.lt_of_lt_of_le ap h.size) fun e=>?_).trans (h.block k ap hn);rcases a5 k e.symm with ac|ac
 ·exact hn ac
 ·omega
theorem Fr.cell(h:Fr M a b){k j:Nat}(ap:k<a.heap.size)(hn:¬M k):b.cell? ⟨k,j,none⟩=a.cell? ⟨k,j,none⟩:=World.cell?_of_block (h.block k ap hn)
theorem Fr.frozen(h:Fr M a b){k j:Nat}(ap:k<a.heap.size)(hn:¬M k):b.frozen? ⟨k,j,none⟩=a.frozen? ⟨k,j,none⟩:=by
 simp only[World.frozen?,h.block k ap hn]
theorem Fr.two(h:Fr M a b):(∀k j,k<a.heap.size→¬M k→b.cell? ⟨k,j,none⟩=a.cell? ⟨k,j,none⟩)∧(∀k j,k<a.heap.size→¬M k→b.frozen? ⟨k,j,none⟩=a.frozen? ⟨k,j,none⟩):=
 ⟨fun _ _ ap hn=>h.cell ap hn,fun _ _ ap hn=>h.frozen ap hn⟩
theorem Fr.s6(h:Ext a b):(∀k j,k<a.heap.size→b.cell? ⟨k,j,none⟩=a.cell? ⟨k,j,none⟩)∧(∀k j,k<a.heap.size→b.frozen? ⟨k,j,none⟩=a.frozen? ⟨k,j,none⟩):=
 ⟨fun _ _ ap=>h.cell ap (fun h=>h),fun _ _ ap=>h.frozen ap (fun h=>h)⟩
theorem Fr.twod(h:Fr M a.drew b):(∀k j,k<a.heap.size→¬M k→b.cell? ⟨k,j,none⟩=a.cell? ⟨k,j,none⟩)∧(∀k j,k<a.heap.size→¬M k→b.frozen? ⟨k,j,none⟩=a.frozen? ⟨k,j,none⟩):=
 ⟨fun _ _ ap hn=>h.cell ap hn,fun _ _ ap hn=>h.frozen ap hn⟩
theorem Fr.GM(h:Ext a.drew b):(∀k j,k<a.heap.size→b.cell? ⟨k,j,none⟩=a.cell? ⟨k,j,none⟩)∧(∀k j,k<a.heap.size→b.frozen? ⟨k,j,none⟩=a.frozen? ⟨k,j,none⟩):=
 ⟨fun _ _ ap=>h.cell ap (fun h=>h),fun _ _ ap=>h.frozen ap (fun h=>h)⟩
theorem Fr.jk(h:Ext a.drew.drew b):(∀k j,k<a.heap.size→b.cell? ⟨k,j,none⟩=a.cell? ⟨k,j,none⟩)∧(∀k j,k<a.heap.size→b.frozen? ⟨k,j,none⟩=a.frozen? ⟨k,j,none⟩):=
 ⟨fun _ _ ap=>h.cell ap (fun h=>h),fun _ _ ap=>h.frozen ap (fun h=>h)⟩
theorem Fr.IJ(h:Fr M a.drew.drew b):(∀k j,k<a.heap.size→¬M k→b.cell? ⟨k,j,none⟩=a.cell? ⟨k,j,none⟩)∧(∀k j,k<a.heap.size→¬M k→b.frozen? ⟨k,j,none⟩=a.frozen? ⟨k,j,none⟩):=
 ⟨fun _ _ ap hn=>h.cell ap hn,fun _ _ ap hn=>h.frozen ap hn⟩
theorem Fr.aF(h:Fr M a.drew b):Fr M a b:=⟨h.os,h.tape,h.output,h.size,h.block⟩
end
abbrev off(M:Nat→Prop)(w:World):Nat→Prop:=fun b=>b<w.heap.size∧¬M b
section
variable {M:Nat→Prop} {w ab:World}
theorem tW(h:Fr M w ab):∀b,off M w b→off M ab b:=fun _ O=>⟨Nat.lt_of_lt_of_le O.1 h.size,O.2⟩
theorem D.c8{d:D}{cs:List Value}(h:d.rep w (off M w) cs)(O:Fr M w ab):d.rep ab (off M ab) cs:=
 D.aL (tW O) _ _ (D.aS (fun b ak=>O.block b ak.1 ak.2) _ _ h)
theorem Sl.c8{A:Lp}{n:Nat}{l:List D}(h:Sl w (off M w) A n l)(O:Fr M w ab):Sl ab (off M ab) A n l:=
 (h.ak (fun b ak=>O.block b ak.1 ak.2)).mono (tW O)
end
def aq(w:World)(g:Nat)(t:TypeId)(cs:Array Value):Prop:=w.heap[g]?=some (.cells cs t (0,0))
section
variable {w ab:World} {g:Nat} {t:TypeId} {cs:Array Value} {M:Nat→Prop}
theorem aq.lt(h:aq w g t cs):g<w.heap.size:=by
 rcases Nat.lt_or_ge g w.heap.size with ak|aj
 ·exact ak
 ·unfold aq at h;rw[Array.getElem?_eq_none aj] at h;cases h
theorem aq.cell(h:aq w g t cs)(i:Nat):w.cell? ⟨g,i,none⟩=cs[i]?:=cell_of_row w g i cs t (0,0) h
theorem aq.frozen(h:aq w g t cs)(i:Nat):w.frozen? ⟨g,i,none⟩=false:=by
 unfold aq at h;simp[World.frozen?,h]
theorem aq.two(h:aq w g t cs):(∀i,w.cell? ⟨g,i,none⟩=cs[i]?)∧(∀i,w.frozen? ⟨g,i,none⟩=false)∧g<w.heap.size:=⟨h.cell,h.frozen,h.lt⟩
theorem aq.new(w:World)(t:TypeId)(cs:Array Value):aq (w.alloc (.cells cs t)) w.heap.size t cs:=heap_alloc_new w _
theorem aq.gz(w:World)(t:TypeId)(cs:Array Value)(a2:g=w.heap.size):aq (w.alloc (.cells cs t)) g t cs:=by
 subst a2;exact heap_alloc_new w _
theorem aq.drew(h:aq w g t cs):aq w.drew g t cs:=h
theorem aq.alloc(h:aq w g t cs)(o:Obj):aq (w.alloc o) g t cs:=(Below.heap_alloc w o g h.lt).trans h
theorem aq.aM(h:aq w g t cs)(i:Nat)(u:Value):aq (w.setCell ⟨g,i,none⟩ u) g t (cs.setIfInBounds i u):=by
 unfold aq at h ⊢;simp[World.setCell,Array.getElem?_modify,h]
theorem aq.I6(h:aq w g t cs){p:Addr}(hp:g≠p.block)(u:Value):aq (w.setCell p u) g t cs:=(Below.heap_setCell w p u g hp).trans h
theorem aq.below{B:Nat}(h:aq w g t cs)(O:Below B w ab)(a2:g<B):aq ab g t cs:=(O.block g a2).trans h
theorem aq.on(h:aq w g t cs)(O:Fr M w ab)(a2:¬M g):aq ab g t cs:=(O.block g h.lt a2).trans h
theorem aq.ai(h:aq w g t cs)(O:Ext w ab):aq ab g t cs:=(O.block g h.lt fun h=>h).trans h
theorem aq.grown{row:Option Nat}(h:aq w g t cs)(O:w.grownBy ab row)(a2:some g≠row):aq ab g t cs:=(O.block g h.lt a2).trans h
end
theorem PU:(∀(t:Array Value) (d:List Deferred) (i:Nat) (v:Value),Act.put ⟨t,d⟩ (some i) v=⟨t.setIfInBounds i v,d⟩)∧(∀(l:List Value) (i:Nat) (v:Value),l.toArray.setIfInBounds i v=(l.set i v).toArray)∧(∀(x v:Value) (l:List Value),(x::l).set 0 v=v::l)∧(∀(x v:Value) (l:List Value) (i:Nat),(x::l).set (i+1) v=x::l.set i v)∧
  (∀(l:List Oper) (i:Nat) (h:i<l.toArray.size),l.toArray[i]'h=l[i]'(by simpa using h))∧(∀(x:Oper) (l:List Oper) (h:0<(x::l).length),(x::l)[0]'h=x)∧(∀(x:Oper) (l:List Oper) (i:Nat) (h:i+1<(x::l).length),(x::l)[i+1]'h=l[i]'(by simpa using h)):=
 ⟨fun _ _ _ _=>rfl,fun _ _ _=>by simp,fun _ _ _=>rfl,fun _ _ _ _=>rfl,fun _ _ _=>by simp,fun _ _ _=>rfl,fun _ _ _ _=>rfl⟩
section
variable {P:Program} {ops:Array Oper} {Q:Exit→Act→World→Prop} {R:World→World→Prop} {M:Nat→Prop} {tails:List Nat} {i:Nat} {o:Oper} {v:Value} {a r:Act} {w:World}
theorem pf{rest:List (Nat×Nat)}(h:b5 P ops Q R rest r w)(an:ops[i]?=some o:=by rfl)(hw:Region.wanted o (yielded ops a.tmps)=true:=by rfl)(bI:∀V,(execOp a.eval o).run P V=.ok (.value v) V:=by intro V;(go_simp<;>with_reducible rfl))(bx:a.put o.dst v=r:=by (simp only[PU];rfl)) :
  b5 P ops Q R ((i,3)::rest) a w:=br an hw bI (bx▸h)
theorem tf{rest:PT}(h:cN P ops Q R tails rest r w)(an:ops[i]?=some o:=by rfl)(hw:Region.wanted o (yielded ops a.tmps)=true:=by rfl)(bI:∀V,(execOp a.eval o).run P V=.ok (.value v) V:=by intro V;(go_simp<;>with_reducible rfl))(bx:a.put o.dst v=r:=by (simp only[PU];rfl)) :
  cN P ops Q R tails (.free i rest) a w:=k8 an hw bI (bx▸h)
theorem ph{rest:List (Nat×Nat)}(h:b5 P ops Q R rest r w)(an:ops[i]?=some o:=by rfl)(hw:Region.wanted o (yielded ops a.tmps)=true:=by rfl)(bI:∀V,R w V→(execOp a.eval o).run P V=.ok (.value v) V:=by intro V hV;obtain⟨hVc,hVf⟩:=Fr.GM hV;(go_simp<;>with_reducible rfl))(bx:a.put o.dst v=r:=by (simp only[PU];rfl)) :
  b5 P ops Q R ((i,0)::rest) a w:=bO an hw bI (bx▸h)
theorem th{rest:PT}(h:cN P ops Q R tails rest r w)(an:ops[i]?=some o:=by rfl)(hw:Region.wanted o (yielded ops a.tmps)=true:=by rfl)(bI:∀V,R w V→(execOp a.eval o).run P V=.ok (.value v) V:=by intro V hV;obtain⟨hVc,hVf⟩:=Fr.GM hV;(go_simp<;>with_reducible rfl))(bx:a.put o.dst v=r:=by (simp only[PU];rfl)) :
  cN P ops Q R tails (.held i rest) a w:=cw an hw bI (bx▸h)
theorem J7{rest:List (Nat×Nat)}(h:b5 P ops Q R rest r w)(an:ops[i]?=some o:=by rfl)(hw:Region.wanted o (yielded ops a.tmps)=true:=by rfl)(bI:∀V,R w V→(execOp a.eval o).run P V=.ok (.value v) V:=by intro V hV;obtain⟨hVc,hVf⟩:=Fr.s6 hV;(go_simp<;>with_reducible rfl))(bx:a.put o.dst v=r:=by (simp only[PU];rfl)) :
  b5 P ops Q R ((i,0)::rest) a w:=bO an hw bI (bx▸h)
theorem oq{rest:List (Nat×Nat)}(h:b5 P ops Q R rest r w)(an:ops[i]?=some o:=by rfl)(hw:Region.wanted o (yielded ops a.tmps)=true:=by rfl)(bI:∀V,R w V→(execOp a.eval o).run P V=.ok (.value v) V:=by intro V hV;obtain⟨hVc,hVf⟩:=Fr.twod hV;(go_simp<;>with_reducible rfl))(bx:a.put o.dst v=r:=by (simp only[PU];rfl)) :
  b5 P ops Q R ((i,0)::rest) a w:=bO an hw bI (bx▸h)
theorem mU{rest:PT}(h:cN P ops Q R tails rest r w)(an:ops[i]?=some o:=by rfl)(hw:Region.wanted o (yielded ops a.tmps)=true:=by rfl)(bI:∀V,R w V→(execOp a.eval o).run P V=.ok (.value v) V:=by intro V hV;obtain⟨hVc,hVf⟩:=Fr.twod hV;(go_simp<;>with_reducible rfl))(bx:a.put o.dst v=r:=by (simp only[PU];rfl)) :
  cN P ops Q R tails (.held i rest) a w:=cw an hw bI (bx▸h)
theorem J8{rest:List (Nat×Nat)}(h:b5 P ops Q R rest r w)(an:ops[i]?=some o:=by rfl)(hw:Region.wanted o (yielded ops a.tmps)=true:=by rfl)(bI:∀V,R w V→(execOp a.eval o).run P V=.ok (.value v) V:=by intro V hV;obtain⟨hVc,hVf⟩:=Fr.two hV;(go_simp<;>with_reducible rfl))(bx:a.put o.dst v=r:=by (simp only[PU];rfl)) :
  b5 P ops Q R ((i,0)::rest) a w:=bO an hw bI (bx▸h)
theorem JN{rest:PT}(h:cN P ops Q R tails rest r w)(an:ops[i]?=some o:=by rfl)(hw:Region.wanted o (yielded ops a.tmps)=true:=by rfl)(bI:∀V,R w V→(execOp a.eval o).run P V=.ok (.value v) V:=by intro V hV;obtain⟨hVc,hVf⟩:=Fr.two hV;(go_simp<;>with_reducible rfl))(bx:a.put o.dst v=r:=by (simp only[PU];rfl)) :
  cN P ops Q R tails (.held i rest) a w:=cw an hw bI (bx▸h)
theorem Fk{rest:List (Nat×Nat)}(h:b5 P ops Q R rest r w)(an:ops[i]?=some o:=by rfl)(hw:Region.wanted o (yielded ops a.tmps)=true:=by rfl)(bI:∀V,R w V→(execOp a.eval o).run P V=.ok (.value v) V:=by intro V hV;obtain⟨hVc,hVf⟩:=Fr.IJ hV;(go_simp<;>with_reducible rfl))(bx:a.put o.dst v=r:=by (simp only[PU];rfl)) :
  b5 P ops Q R ((i,0)::rest) a w:=bO an hw bI (bx▸h)
theorem qV{ab:World}{rest:List (Nat×Nat)}{M:Nat→Prop}(h:b5 P ops Q (Fr M) rest r ab)(an:ops[i]?=some o:=by rfl)(hx:∀K:Act→World→Prop,K r ab→if Region.wanted o (yielded ops a.tmps)=true then o.wp P a w K Q else K (a.put o.dst undef) w:=by (intro K hK;go_simp;(try simp only[PU] at hK ⊢);exact hK))(cA:Fr M w ab:=by exact(Fr.refl _ _).alloc _) :
  b5 P ops Q (Fr M) ((i,1)::rest) a w:=aI an fun K hK=>hx K (hK _ _ cA h)
theorem dP{ab:World}{p:PT}{M:Nat→Prop}(h:cN P ops Q (Fr M) tails p r ab)(an:ops[i]?=some o:=by rfl)(hx:∀K:Act→World→Prop,K r ab→if Region.wanted o (yielded ops a.tmps)=true then o.wp P a w K Q else K (a.put o.dst undef) w:=by (intro K hK;go_simp;(try simp only[PU] at hK ⊢);exact hK))(cA:Fr M w ab:=by exact(Fr.refl _ _).alloc _)(hT:tails.contains i=false:=by rfl) :
  od P ops Q (Fr M) tails i p a w:=aB an (fun K hK=>hx K (hK _ _ cA h)) hT
end
section
variable {P:Program} {ops:Array Oper} {Q:Exit→Act→World→Prop} {M:Nat→Prop} {id:Nat} {a:Act} {w:World}
theorem eK(M:Nat→Prop)(e:List (Nat×Nat))(h:b5 P ops Q (Fr M) e a w.drew)(ac:P.follows .mixedOrders=true:=by kernel_rfl)(au:wj .any ops e=true:=by kernel_rfl)(bv:∀c a d v w,Q (.panic c) (a.put d v) w→Q (.panic c) a w:=by (intro _ _ d _ _ h;first|(cases d<;>exact h)|exact hQ0 _ _ _ _ _ h)):(Code.region id ops true).wp P Q a w:=
 kK (Fr M) e ac au (Fr.refl _) (fun _ _ _ h k=>h.trans k) bv h
theorem qY(M:Nat→Prop)(tails:List Nat)(p:PT)(h:cN P ops Q (Fr M) tails p a w.drew)(ac:P.follows .mixedOrders=true:=by kernel_rfl)(au:wK .any ops tails p=true:=by kernel_rfl)(bv:∀c a d v w,Q (.panic c) (a.put d v) w→Q (.panic c) a w:=by (intro _ _ d _ _ h;first|(cases d<;>exact h)|exact hQ0 _ _ _ _ _ h)):(Code.region id ops true).wp P Q a w:=
 qE (Fr M) tails p ac au (Fr.refl _) (fun _ _ _ h k=>h.trans k) bv h
end
theorem dz{K:Act→World→Prop}{c:World→Prop}{b:Act→World→Prop}{a r:Act}{ab:World}(hK:∀r ab,c ab→b r ab→K r ab)(cA:c ab)(h:b r ab)(e:a=r:=by ((try simp only[PU]);rfl)):K a ab:=hK _ _ cA (e▸h)
theorem dO{K:Act→World→Prop}{b:Act→World→Prop}{a r:Act}{ab:World}(hK:∀r ab,b r ab→K r ab)(h:b r ab)(e:a=r:=by ((try simp only[PU]);rfl)):K a ab:=hK _ _ (e▸h)
end Go.Proofs.YtglbpimocmhojaaGreat
