/- Part 0 of the proof. No condition of its own. -/
import Derived.Deep.Draws
import Derived.Maps.AppendAt
import Derived.OrdersHeld
import Derived.StillTail
import Derived.Test.YtpkfopfkdgkfkaaGreatRows
import Derived.WalkKit
import Derived.WalkLawsBesides
import Derived.WalkSpells
namespace Go.Proofs.YtpkfopfkdgkfkaaGreat
open Go.RowKit Go.Proofs.Tryz
set_option maxRecDepth 1000000
set_option maxHeartbeats 25600000
set_option linter.unusedVariables false
abbrev Mt:=Option Addr
abbrev Mu:=List ByteArray
def Mw(p:Prop):Prop:=p
theorem Mw.o{p:Prop}(h:Mw p):p:=h
section
variable {P:Program} {ops:Array Oper} {Q:Exit→Act→World→Prop} {md:Region.Mode} {R:World→World→Prop} {T:Nat→Bool}
def kk(P:Program)(md:Region.Mode)(ops:Array Oper)(Q:Exit→Act→World→Prop)(R:World→World→Prop)(T:Nat→Bool):Nat→Array Bool→Act→World→Prop
 | 0,listed,a,w=>Region.ready md ops listed=[]∧Q .normal a w
 | fuel+1,listed,a,w=>
  (Region.ready md ops listed=[]→Q .normal a w)∧
  ∀i∈Region.ready md ops listed,wpOp P ops Q i (fun r ab=>(T i=true→R w ab)∧kk P md ops Q R T fuel (listed.setIfInBounds i true) r ab) a w
theorem mo:∀(fuel:Nat) (listed:Array Bool) (a:Act) (w:World),kk P md ops Q R T fuel listed a w→wpAny P md ops Q fuel listed a w
 | 0,_,_,_,h=>h
 | fuel+1,_,_,_,h=>⟨h.1,fun i aX=>wpOp_mono (fun r ab E=>mo fuel _ r ab E.2) (h.2 i aX)⟩
def jV(md:Region.Mode)(ops:Array Oper)(listed:Array Bool):Prop:=
 ∀j g,ops[j]?=some g→listed.getD j false=true→∀e∈g.after,Region.binds md e=true→listed.getD e.on false=true
theorem jV.set{i:Nat}{listed:Array Bool}(inv:jV md ops listed)(aX:i∈Region.ready md ops listed):jV md ops (listed.setIfInBounds i true):=by
 obtain⟨_,p,cq,y⟩:=mem_ready.1 aX;intro j g bd hl e he O;by_cases J:i=j
 ·subst J;have:g=p:=Option.some.inj (bd.symm.trans cq);subst this;exact getD_set_true (y e he O)
 ·rw[getD_set_ne false J] at hl;exact getD_set_true (inv j g bd hl e he O)
def D1(md:Region.Mode)(ops:Array Oper):Nat→Nat→Nat→Bool
 | 0,_,_=>false
 | f+1,j,i=>match ops[j]? with
  | none=>false
  | some g=>g.after.any fun e=>Region.binds md e && (e.on == i || D1 md ops f e.on i)
theorem D2{i:Nat}{listed:Array Bool}(inv:jV md ops listed):∀(f j:Nat),D1 md ops f j i=true→
  (∃g,ops[j]?=some g∧∀e∈g.after,Region.binds md e=true→listed.getD e.on false=true)→listed.getD i false=true:=by
 intro f
 induction f with
 | zero=>intro j h;simp[D1] at h
 | succ f Z=>
  intro j h bd;obtain⟨g,bn,y⟩:=bd;simp only[D1,bn] at h;obtain⟨e,he,O⟩:=Array.any_eq_true'.1 h;simp only[Bool.and_eq_true,Bool.or_eq_true,beq_iff_eq] at O;have hl:=y e he O.1;rcases O.2 with ap|ap
  ·rw[←ap];exact hl
  ·refine Z e.on ap ?_
   cases aj:ops[e.on]? with
   | none=>cases f<;>simp[D1,aj] at ap
   | some ok=>exact⟨ok,rfl,fun l a a1=>inv e.on ok aj hl l a a1⟩
theorem im{i:Nat}{p:Oper}{v:Value}{U:World→World→Prop}(t:∀a b c,R a b→U b c→U a c)(l:∀a,R a a)(A:∀a,U a a)(aX:ops[i]?=some p)(q:∀(j:Nat) (o:Oper) cs b,ops[j]?=some o→o.op≠.select cs b)
  (hQ:∀c a w,Q (.panic c) (a.put p.dst v) w→Q (.panic c) a w) (hT:(∀a b,U a b)∨∀j,T j=false→∃f,D1 md ops f j i=true) :
  ∀(fuel:Nat) (listed:Array Bool) (a:Act) (w:World),jV md ops listed→
   (∀j g,ops[j]?=some g→j≠i→listed.getD j true=false→(∀e∈g.after,Region.binds md e=true→e.on≠i)→p.apart ops g=true)→
   i∈Region.ready md ops listed→YieldsIf P ops (U w) p v a→
   kk P md ops Q R T fuel (listed.setIfInBounds i true) (a.put p.dst v) w→kk P md ops Q R T (fuel+1) listed a w:=by
 intro fuel
 induction fuel with
 | zero=>
  intro listed a w _ _ a5 bb H;refine⟨fun h=>(by rw[h] at a5;cases a5),fun j bd=>?_⟩;by_cases M:j=i
  ·subst M;exact bb.wpOp aX (A w) ⟨fun _=>l w,H⟩
  ·have:=ready_mono bd M;rw[H.1] at this
   cases this
 | succ fuel Z=>
  intro listed a w inv aa a5 bb H;refine⟨fun h=>(by rw[h] at a5;cases a5),fun j bd=>?_⟩;by_cases M:j=i
  ·subst M;exact bb.wpOp aX (A w) ⟨fun _=>l w,H⟩
  ·have ac:=H.2 j (ready_mono bd M);obtain⟨x,g,u,y⟩:=mem_ready.1 bd;have n:=(mem_ready.1 a5).1;have z:∀e∈g.after,Region.binds md e=true→e.on≠i:=fun e he O heq=>by
    have ac:=y e he O;have h0:=n;rw[heq] at ac;rcases Nat.lt_or_ge i listed.size with E|E
    ·simp[E] at h0 ac;rw[h0] at ac;cases ac
    ·simp[Array.getElem?_eq_none E] at ac
   have m:(∀a b,U a b)∨T j=true:=by
    rcases hT with hT|hT
    ·exact .inl hT
    refine .inr ?_
    cases m:T j with
    | true=>rfl
    | false=>
     obtain⟨f,J⟩:=hT j m;have:=D2 inv f j J ⟨g,u,y⟩;rcases Nat.lt_or_ge i listed.size with E|E
     ·simp[E] at n this;rw[n] at this;cases this
     ·simp[Array.getElem?_eq_none E] at this
   have ap:=wpOp_putIf (S:=U w) u (aa j g u M x z) (fun cs b=>q i p cs b aX) (fun cs b=>q j g cs b u) hQ bb ac;have s:∀k ok,ops[k]?=some ok→k≠i→(listed.setIfInBounds j true).getD k true=false→
     (∀e∈ok.after,Region.binds md e=true→e.on≠i)→p.apart ops ok=true:=fun k ok aj C B bm=>by
    refine aa k ok aj C ?_ bm;by_cases ag:j=k
    ·subst ag;exact x
    ·rw[getD_set_ne true ag] at B;exact B
   refine wpOp_mono (fun r ab aV=>?_) ap;have d:YieldsIf P ops (U ab) p v r:=aV.1.imp (fun⟨hw,bE⟩=>⟨hw,fun V hV=>bE V (m.elim (fun h=>h _ _) fun h=>t _ _ _ (aV.2.1 h) hV)⟩) id;refine⟨aV.2.1,Z (listed.setIfInBounds j true) r ab (inv.set bd) s (ready_mono a5 (Ne.symm M)) d ?_⟩;rw[Array.setIfInBounds_comm _ _ M];exact aV.2.2
def b9(P:Program)(ops:Array Oper)(Q:Exit→Act→World→Prop)(R:World→World→Prop):List (Nat×Nat)→Act→World→Prop
 | [],a,w=>Q .normal a w
 | (i,0)::rest,a,w=>∃o v,ops[i]?=some o∧YieldsIf P ops (R w) o v a∧b9 P ops Q R rest (a.put o.dst v) w
 | (i,3)::rest,a,w=>∃o v,ops[i]?=some o∧YieldsIf P ops (fun _=>True) o v a∧b9 P ops Q R rest (a.put o.dst v) w
 | (i,k+1)::rest,a,w=>∃o,ops[i]?=some o∧∀K:Act→World→Prop,(∀r ab,(k=0→R w ab)→b9 P ops Q R rest r ab→K r ab)→
   (if Region.wanted o (yielded ops a.tmps)=true then o.wp P a w K Q else K (a.put o.dst undef) w)
def lK(md:Region.Mode)(ops:Array Oper):List (Nat×Nat)→Array Bool→Bool
 | [],listed=>(Region.ready md ops listed).isEmpty
 | (i,0)::rest,listed=>Region.free md ops listed i && (Region.ready md ops listed).contains i && lK md ops rest (listed.setIfInBounds i true)
 | (i,3)::rest,listed=>Region.free md ops listed i && (Region.ready md ops listed).contains i && lK md ops rest (listed.setIfInBounds i true)
 | (i,_+1)::rest,listed=>(Region.ready md ops listed == [i]) && lK md ops rest (listed.setIfInBounds i true)
def m3(e:List (Nat×Nat)):List Nat:=(e.filter fun p=>decide (2=p.2)).map (·.1)
def wX(md:Region.Mode)(ops:Array Oper)(e:List (Nat×Nat)):Bool:=
 Region.noSelect ops && (e.length == ops.size) && (e.all fun p=>decide (p.2≤3)) && (e.all fun p=>decide (p.2=1∨p.2=2∨p.2=3) || (m3 e).all fun j=>D1 md ops ops.size j p.1) && lK md ops e (Array.replicate ops.size false)
theorem iQ(t:∀a b c,R a b→R b c→R a c)(l:∀a,R a a)(q:∀(j:Nat) (o:Oper) cs b,ops[j]?=some o→o.op≠.select cs b)
  (hQ:∀c a d v w,Q (.panic c) (a.put d v) w→Q (.panic c) a w) :
  ∀(e:List (Nat×Nat)) (listed:Array Bool) (a:Act) (w:World),jV md ops listed→lK md ops e listed=true→
   (∀p∈e,p.2=0→∀j,T j=false→∃f,D1 md ops f j p.1=true)→(∀p∈e,2=p.2→T p.1=false)→(∀p∈e,p.2≤3)→
   b9 P ops Q R e a w→kk P md ops Q R T e.length listed a w
 | [],listed,a,w,_,aQ,_,_,_,h=>⟨by simpa[lK] using aQ,h⟩
 | (i,0)::rest,listed,a,w,inv,aQ,h0,ap,aV,h=>by
  obtain⟨o,v,aX,bb,h⟩:=h;simp only[lK,Bool.and_eq_true] at aQ;have a5:i∈Region.ready md ops listed:=by simpa using aQ.1.2
  exact im (U:=R) t l l aX q (fun c a w=>hQ c a _ _ w) (.inr (h0 (i,0) (by simp) rfl)) rest.length listed a w inv (Region.free_spec aX aQ.1.1) a5 bb
   (iQ t l q hQ rest _ _ _ (inv.set a5) aQ.2 (fun p hp=>h0 p (by simp[hp])) (fun p hp=>ap p (by simp[hp])) (fun p hp=>aV p (by simp[hp])) h)
 | (i,3)::rest,listed,a,w,inv,aQ,h0,ap,aV,h=>by
  obtain⟨o,v,aX,bb,h⟩:=h;simp only[lK,Bool.and_eq_true] at aQ;have a5:i∈Region.ready md ops listed:=by simpa using aQ.1.2
  exact im (U:=fun _ _=>True) (fun _ _ _ _ _=>trivial) l (fun _=>trivial) aX q (fun c a w=>hQ c a _ _ w) (.inl fun _ _=>trivial) rest.length listed a w inv (Region.free_spec aX aQ.1.1) a5 bb
   (iQ t l q hQ rest _ _ _ (inv.set a5) aQ.2 (fun p hp=>h0 p (by simp[hp])) (fun p hp=>ap p (by simp[hp])) (fun p hp=>aV p (by simp[hp])) h)
 | (i,1)::rest,listed,a,w,inv,aQ,h0,ap,aV,h=>by
  obtain⟨o,aX,h⟩:=h;simp only[lK,Bool.and_eq_true,beq_iff_eq] at aQ;have a5:i∈Region.ready md ops listed:=by rw[aQ.1];simp
  refine⟨fun h0=>(by rw[h0] at a5;cases a5),fun j bd=>?_⟩;rw[aQ.1] at bd;have M:j=i:=by simpa using bd
  subst M;have g:=h (fun r ab=>(T j=true→R w ab)∧kk P md ops Q R T rest.length (listed.setIfInBounds j true) r ab) fun r ab cv hp=>
   ⟨fun hT=>cv rfl,iQ t l q hQ rest _ _ _ (inv.set a5) aQ.2 (fun p hp=>h0 p (by simp[hp])) (fun p hp=>ap p (by simp[hp])) (fun p hp=>aV p (by simp[hp])) hp⟩
  unfold Go.wpOp;simp only[aX];split
  ·rename_i hw;rw[if_pos hw] at g;exact .inl g
  ·rename_i hw;rw[if_neg hw] at g
   exact g
 | (i,2)::rest,listed,a,w,inv,aQ,h0,ap,aV,h=>by
  obtain⟨o,aX,h⟩:=h;simp only[lK,Bool.and_eq_true,beq_iff_eq] at aQ;have a5:i∈Region.ready md ops listed:=by rw[aQ.1];simp
  refine⟨fun h0=>(by rw[h0] at a5;cases a5),fun j bd=>?_⟩;rw[aQ.1] at bd;have M:j=i:=by simpa using bd
  subst M;have m:T j=false:=ap (j,2) (by simp) rfl;have g:=h (fun r ab=>(T j=true→R w ab)∧kk P md ops Q R T rest.length (listed.setIfInBounds j true) r ab) fun r ab _ hp=>
   ⟨fun hT=>(by rw[m] at hT;cases hT),iQ t l q hQ rest _ _ _ (inv.set a5) aQ.2 (fun p hp=>h0 p (by simp[hp])) (fun p hp=>ap p (by simp[hp])) (fun p hp=>aV p (by simp[hp])) hp⟩
  unfold Go.wpOp;simp only[aX];split
  ·rename_i hw;rw[if_pos hw] at g;exact .inl g
  ·rename_i hw;rw[if_neg hw] at g
   exact g
 | (i,k+4)::rest,listed,a,w,inv,aQ,h0,ap,aV,h=>absurd (aV (i,k+4) (by simp)) (by simp)
theorem kY(R:World→World→Prop)(e:List (Nat×Nat)){id:Nat}{a:Act}{w:World}(hm:P.follows .mixedOrders=true)(aQ:wX .any ops e=true)
  (l:∀a,R a a) (t:∀a b c,R a b→R b c→R a c) (hQ:∀c a d v w,Q (.panic c) (a.put d v) w→Q (.panic c) a w)
  (h:b9 P ops Q R e a w.drew):(Code.region id ops true).wp P Q a w:=by
 simp only[wX,Bool.and_eq_true,beq_iff_eq] at aQ;obtain⟨⟨⟨⟨hs,hl⟩,aV⟩,ht⟩,hp⟩:=aQ;refine wp_region_any hm (mo (R:=R) (T:=fun j=>!(m3 e).contains j) _ _ _ _ ?_);rw[←hl];refine iQ t l (Region.noSelect_spec hs) hQ e _ a _ (fun j g _ bd=>?_) (by rw[hl];exact hp) (fun p c2 V j bd=>?_) (fun p c2 y=>?_) (fun p c2=>?_) h
 ·rw[getD_replicate_false] at bd;cases bd
 ·have ac:=List.all_eq_true.1 ht p c2;rw[V] at ac;have f:j∈m3 e:=by simpa using bd
  have ap:((m3 e).all fun j=>D1 .any ops ops.size j p.1)=true:=by simpa using ac
  exact⟨_,List.all_eq_true.1 ap j f⟩
 ·have:p.1∈m3 e:=List.mem_map.2 ⟨p,List.mem_filter.2 ⟨c2,by simpa using y⟩,rfl⟩;simpa using this
 ·exact List.all_eq_true.1 aV p c2 |> of_decide_eq_true
theorem bJ{i:Nat}{o:Oper}{v:Value}{rest:List (Nat×Nat)}{a:Act}{w:World}(aX:ops[i]?=some o)(hw:Region.wanted o (yielded ops a.tmps)=true)
  (bE:∀V,R w V→(execOp a.eval o).run P V=.ok (.value v) V) (h:b9 P ops Q R rest (a.put o.dst v) w):b9 P ops Q R ((i,0)::rest) a w:=
 ⟨o,v,aX,.inl ⟨hw,bE⟩,h⟩
theorem iv{i:Nat}{o:Oper}{rest:List (Nat×Nat)}{a:Act}{w:World}(aX:ops[i]?=some o)(hw:Region.wanted o (yielded ops a.tmps)=false)
  (h:b9 P ops Q R rest (a.put o.dst undef) w):b9 P ops Q R ((i,0)::rest) a w:=
 ⟨o,undef,aX,.inr ⟨hw,rfl⟩,h⟩
theorem bs{i:Nat}{o:Oper}{v:Value}{rest:List (Nat×Nat)}{a:Act}{w:World}(aX:ops[i]?=some o)(hw:Region.wanted o (yielded ops a.tmps)=true)
  (bE:∀V,(execOp a.eval o).run P V=.ok (.value v) V) (h:b9 P ops Q R rest (a.put o.dst v) w):b9 P ops Q R ((i,3)::rest) a w:=
 ⟨o,v,aX,.inl ⟨hw,fun V _=>bE V⟩,h⟩
theorem dz{i:Nat}{o:Oper}{rest:List (Nat×Nat)}{a:Act}{w:World}(aX:ops[i]?=some o)(hw:Region.wanted o (yielded ops a.tmps)=false)
  (h:b9 P ops Q R rest (a.put o.dst undef) w):b9 P ops Q R ((i,3)::rest) a w:=
 ⟨o,undef,aX,.inr ⟨hw,rfl⟩,h⟩
theorem aB{i:Nat}{o:Oper}{rest:List (Nat×Nat)}{a:Act}{w:World}(aX:ops[i]?=some o)
  (h:∀K:Act→World→Prop,(∀r ab,R w ab→b9 P ops Q R rest r ab→K r ab)→if Region.wanted o (yielded ops a.tmps)=true then o.wp P a w K Q else K (a.put o.dst undef) w) :
  b9 P ops Q R ((i,1)::rest) a w:=
 ⟨o,aX,fun K hK=>h K fun r ab cv hp=>hK r ab (fun _=>cv) hp⟩
theorem ax{i:Nat}{o:Oper}{rest:List (Nat×Nat)}{a:Act}{w:World}(aX:ops[i]?=some o)
  (h:∀K:Act→World→Prop,(∀r ab,b9 P ops Q R rest r ab→K r ab)→if Region.wanted o (yielded ops a.tmps)=true then o.wp P a w K Q else K (a.put o.dst undef) w) :
  b9 P ops Q R ((i,2)::rest) a w:=
 ⟨o,aX,fun K hK=>h K fun r ab hp=>hK r ab (fun h=>absurd h (by decide)) hp⟩
theorem aF{a:Act}{w:World}(h:Q .normal a w):b9 P ops Q R [] a w:=h
end
inductive PT where
 | stop
 | free (i:Nat) (rest:PT)
 | held (i:Nat) (rest:PT)
 | pick (is:List Nat) (f:Nat→PT)
section
variable {P:Program} {ops:Array Oper} {Q:Exit→Act→World→Prop} {md:Region.Mode} {R:World→World→Prop}
def cS(P:Program)(ops:Array Oper)(Q:Exit→Act→World→Prop)(R:World→World→Prop)(tails:List Nat):PT→Act→World→Prop
 | .stop,a,w=>Q .normal a w
 | .free i rest,a,w=>∃o v,ops[i]?=some o∧YieldsIf P ops (fun _=>True) o v a∧cS P ops Q R tails rest (a.put o.dst v) w
 | .held i rest,a,w=>∃o v,ops[i]?=some o∧YieldsIf P ops (R w) o v a∧cS P ops Q R tails rest (a.put o.dst v) w
 | .pick is f,a,w=>∀i∈is,∃o,ops[i]?=some o∧∀K:Act→World→Prop,(∀r ab,(tails.contains i=false→R w ab)→cS P ops Q R tails (f i) r ab→K r ab)→
   (if Region.wanted o (yielded ops a.tmps)=true then o.wp P a w K Q else K (a.put o.dst undef) w)
def m5(md:Region.Mode)(ops:Array Oper):PT→Nat→Array Bool→Bool
 | .stop,n,listed=>n == 0 && (Region.ready md ops listed).isEmpty
 | .free i rest,n,listed=>decide (0<n) && (Region.free md ops listed i && (Region.ready md ops listed).contains i && m5 md ops rest (n - 1) (listed.setIfInBounds i true))
 | .held i rest,n,listed=>decide (0<n) && (Region.free md ops listed i && (Region.ready md ops listed).contains i && m5 md ops rest (n - 1) (listed.setIfInBounds i true))
 | .pick is f,n,listed=>decide (0<n) && (!is.isEmpty && (Region.ready md ops listed == is) && is.all fun i=>m5 md ops (f i) (n - 1) (listed.setIfInBounds i true))
def PT.oc:PT→List Nat
 | .stop=>[]
 | .free _ rest=>rest.oc
 | .held i rest=>i::rest.oc
 | .pick is f=>is.flatMap fun i=>(f i).oc
def xn(md:Region.Mode)(ops:Array Oper)(tails:List Nat)(p:PT):Bool:=
 Region.noSelect ops && (p.oc.all fun i=>tails.all fun j=>D1 md ops ops.size j i) && m5 md ops p ops.size (Array.replicate ops.size false)
theorem xt(tails:List Nat)(t:∀a b c,R a b→R b c→R a c)(l:∀a,R a a)(q:∀(j:Nat) (o:Oper) cs b,ops[j]?=some o→o.op≠.select cs b)
  (hQ:∀c a d v w,Q (.panic c) (a.put d v) w→Q (.panic c) a w) :
  ∀(p:PT) (n:Nat) (listed:Array Bool) (a:Act) (w:World),jV md ops listed→m5 md ops p n listed=true→
   (∀i∈p.oc,∀j∈tails,∃f,D1 md ops f j i=true)→cS P ops Q R tails p a w→kk P md ops Q R (fun j=>!tails.contains j) n listed a w:=by
 intro p
 induction p with
 | stop=>
  intro n listed a w _ aQ _ h;simp only[m5,Bool.and_eq_true,beq_iff_eq] at aQ;obtain⟨rfl,aQ⟩:=aQ
  exact⟨by simpa using aQ,h⟩
 | free i rest Z=>
  intro n listed a w inv aQ ah h;obtain⟨o,v,aX,bb,h⟩:=h;simp only[m5,Bool.and_eq_true,decide_eq_true_eq] at aQ;obtain⟨hn,⟨J,hc⟩,aQ⟩:=aQ;obtain⟨m,rfl⟩:∃m,n=m+1:=⟨n - 1,by omega⟩
  have a5:i∈Region.ready md ops listed:=by simpa using hc
  exact im (U:=fun _ _=>True) (fun _ _ _ _ _=>trivial) l (fun _=>trivial) aX q (fun c a w=>hQ c a _ _ w) (.inl fun _ _=>trivial) m listed a w inv (Region.free_spec aX J) a5 bb
   (Z m _ _ _ (inv.set a5) aQ ah h)
 | held i rest Z=>
  intro n listed a w inv aQ ah h;obtain⟨o,v,aX,bb,h⟩:=h;simp only[m5,Bool.and_eq_true,decide_eq_true_eq] at aQ;obtain⟨hn,⟨J,hc⟩,aQ⟩:=aQ;obtain⟨m,rfl⟩:∃m,n=m+1:=⟨n - 1,by omega⟩
  have a5:i∈Region.ready md ops listed:=by simpa using hc
  refine im (U:=R) t l l aX q (fun c a w=>hQ c a _ _ w) (.inr fun j bd=>ah i (by simp[PT.oc]) j (by simpa using bd)) m listed a w inv (Region.free_spec aX J) a5 bb
   (Z m _ _ _ (inv.set a5) aQ (fun i aX=>ah i (by simp[PT.oc,aX])) h)
 | pick is f Z=>
  intro n listed a w inv aQ ah h;simp only[m5,Bool.and_eq_true,decide_eq_true_eq,beq_iff_eq] at aQ;obtain⟨hn,⟨he,a5⟩,aQ⟩:=aQ;obtain⟨m,rfl⟩:∃m,n=m+1:=⟨n - 1,by omega⟩
  by_cases bi:is=[]
  ·subst bi;simp at he
  ·refine⟨fun h0=>absurd (by rw[←a5];exact h0) bi,fun j bd=>?_⟩;have e:=bd;rw[a5] at bd;obtain⟨o,aX,h⟩:=h j bd;have g:=h (fun r ab=>((fun j=>!tails.contains j) j=true→R w ab)∧kk P md ops Q R (fun j=>!tails.contains j) m (listed.setIfInBounds j true) r ab) fun r ab cv hp=>
    ⟨fun hT=>cv (by simpa using hT),Z j m _ _ _ (inv.set e) (by simpa using List.all_eq_true.1 aQ j bd) (fun i aX=>ah i (by simp only[PT.oc,List.mem_flatMap];exact⟨j,bd,aX⟩)) hp⟩
   unfold Go.wpOp;simp only[aX];split
   ·rename_i hw;rw[if_pos hw] at g;exact .inl g
   ·rename_i hw;rw[if_neg hw] at g;exact g
theorem qT(R:World→World→Prop)(tails:List Nat)(p:PT){id:Nat}{a:Act}{w:World}(hm:P.follows .mixedOrders=true)(aQ:xn .any ops tails p=true)
  (l:∀a,R a a) (t:∀a b c,R a b→R b c→R a c) (hQ:∀c a d v w,Q (.panic c) (a.put d v) w→Q (.panic c) a w)
  (h:cS P ops Q R tails p a w.drew):(Code.region id ops true).wp P Q a w:=by
 simp only[xn,Bool.and_eq_true] at aQ;obtain⟨⟨hs,aZ⟩,hp⟩:=aQ;refine wp_region_any hm (mo (R:=R) (T:=fun j=>!tails.contains j) _ _ _ _ ?_);refine xt tails t l (Region.noSelect_spec hs) hQ p ops.size _ a _ (fun j g _ bd=>?_) hp (fun i aX j bd=>?_) h
 ·rw[getD_replicate_false] at bd;cases bd
 ·have ac:=List.all_eq_true.1 aZ i aX;exact⟨_,List.all_eq_true.1 ac j bd⟩
variable {tails:List Nat}
theorem cC{i:Nat}{o:Oper}{v:Value}{rest:PT}{a:Act}{w:World}(aX:ops[i]?=some o)(hw:Region.wanted o (yielded ops a.tmps)=true)
  (bE:∀V,R w V→(execOp a.eval o).run P V=.ok (.value v) V) (h:cS P ops Q R tails rest (a.put o.dst v) w):cS P ops Q R tails (.held i rest) a w:=
 ⟨o,v,aX,.inl ⟨hw,bE⟩,h⟩
theorem ly{i:Nat}{o:Oper}{v:Value}{rest:PT}{a:Act}{w:World}(aX:ops[i]?=some o)(hw:Region.wanted o (yielded ops a.tmps)=true)
  (bE:∀V,(execOp a.eval o).run P V=.ok (.value v) V) (h:cS P ops Q R tails rest (a.put o.dst v) w):cS P ops Q R tails (.free i rest) a w:=
 ⟨o,v,aX,.inl ⟨hw,fun V _=>bE V⟩,h⟩
def ox(P:Program)(ops:Array Oper)(Q:Exit→Act→World→Prop)(R:World→World→Prop)(tails:List Nat)(i:Nat)(p:PT)(a:Act)(w:World):Prop:=
 ∃o,ops[i]?=some o∧∀K:Act→World→Prop,(∀r ab,(tails.contains i=false→R w ab)→cS P ops Q R tails p r ab→K r ab)→
   (if Region.wanted o (yielded ops a.tmps)=true then o.wp P a w K Q else K (a.put o.dst undef) w)
theorem aE{i:Nat}{o:Oper}{p:PT}{a:Act}{w:World}(aX:ops[i]?=some o)
  (h:∀K:Act→World→Prop,(∀r ab,R w ab→cS P ops Q R tails p r ab→K r ab)→if Region.wanted o (yielded ops a.tmps)=true then o.wp P a w K Q else K (a.put o.dst undef) w)
  (hT:tails.contains i=false):ox P ops Q R tails i p a w:=⟨o,aX,fun K hK=>h K fun r ab cv=>hK r ab fun _=>cv⟩
theorem bR{i:Nat}{o:Oper}{p:PT}{a:Act}{w:World}(aX:ops[i]?=some o)
  (h:∀K:Act→World→Prop,(∀r ab,cS P ops Q R tails p r ab→K r ab)→if Region.wanted o (yielded ops a.tmps)=true then o.wp P a w K Q else K (a.put o.dst undef) w)
  (hT:tails.contains i=true):ox P ops Q R tails i p a w:=⟨o,aX,fun K hK=>h K fun r ab hp=>hK r ab (fun h=>by rw[hT] at h;cases h) hp⟩
theorem av{i:Nat}{f:Nat→PT}{a:Act}{w:World}(h:ox P ops Q R tails i (f i) a w):cS P ops Q R tails (.pick [i] f) a w:=fun j bd=>by
 have:j=i:=by simpa using bd
 subst this;exact h
theorem a2{i j:Nat}{f:Nat→PT}{a:Act}{w:World}(h:ox P ops Q R tails i (f i) a w)(ap:ox P ops Q R tails j (f j) a w):cS P ops Q R tails (.pick [i,j] f) a w:=fun k aj=>by
 simp only[List.mem_cons,List.not_mem_nil,or_false] at aj;rcases aj with rfl|rfl
 ·exact h
 ·exact ap
theorem ch{a:Act}{w:World}(h:Q .normal a w):cS P ops Q R tails .stop a w:=h
theorem lz{rest:PT}{aa:Nat→Act}{C:Nat→World→Prop}{G:Prop}(h:(∀g V,C g V→cS P ops Q R tails rest (aa g) V)→G)(key:∀g V,C g V→cS P ops Q R tails rest (aa g) V):G:=h key
end
theorem ae{p:Prop}(h:p):Mw p:=h
theorem EI{a b:Int}{k:IntKind}(h:a=b):Value.int k a=Value.int k b:=by rw[h]
theorem ret_int{a b:Int}{k:IntKind}(h:a=b):Ending.returned (.int k a)=.returned (.int k b):=by rw[h]
theorem ret_bool{a b:Bool}(h:a=b):Ending.returned (.bool a)=.returned (.bool b):=by rw[h]
theorem aY{α:Type}{l:List α}{k:Nat}{x:α}(h:l[k]?=some x):l.take (k+1)=l.take k++[x]:=by
 rw[List.take_add_one,h];rfl
theorem Gn(x y:Int):(if y > x then y else x)=max x y:=by
 by_cases h:x≤y<;>simp[Int.max_def,h]<;>omega
theorem Gp(x y:Int):(if y<x then y else x)=min x y:=by
 by_cases h:x≤y<;>simp[Int.min_def,h]<;>omega
theorem gE(P:Program)(w:World)(a:Array TypeId)(t:TypeId)(k F:IntKind)(x y:Int):(Builtin.max_ a t #[.int k x,.int F y]).run P w=.ok (.int k (max x y)) w:=by
 rw[run_max_int2,Gn]
theorem gF(P:Program)(w:World)(a:Array TypeId)(t:TypeId)(k F:IntKind)(x y:Int):(Builtin.min_ a t #[.int k x,.int F y]).run P w=.ok (.int k (min x y)) w:=by
 rw[run_min_int2,Gp]
theorem cY{B:Nat}{a w:World}(h:Below B a w)(n:Nat):Below B a (w.drewN n):=⟨h.os,h.tape,h.output,h.size,h.block⟩
def cw{α:Type}(E:World→Nat→α→List Value→Prop)(sz:Nat)(w:World)(B:Nat)(A:Mt)(n:Nat)(l:List α):Prop:=
 l.length=n∧(0<n→∃b o,A=some ⟨b,o,none⟩∧b<B∧∀k x,l[k]?=some x→∃cs:List Value,E w B x cs∧cs.length=sz∧∀j v,cs[j]?=some v→w.cell? ⟨b,o+k*sz+j,none⟩=some v)
section
variable {α:Type} {E:World→Nat→α→List Value→Prop} {sz:Nat} {w ab:World} {B q n:Nat} {A:Mt} {l:List α}
theorem cw.bS(A:Mt):cw E sz w B A 0 ([]:List α):=⟨rfl,fun h=>absurd h (by omega)⟩
theorem cw.ai(h:cw E sz w B A n l)(O:Below B w ab)(aw:∀x cs,E w B x cs→E ab B x cs):cw E sz ab B A n l:=by
 refine⟨h.1,fun hn=>?_⟩;obtain⟨b,o,bG,aB,hc⟩:=h.2 hn;refine⟨b,o,bG,aB,fun k x hx=>?_⟩;obtain⟨cs,he,hl,bd⟩:=hc k x hx;exact⟨cs,aw _ _ he,hl,fun j v bE=>(O.cell (p:=⟨b,_,none⟩) aB).trans (bd j v bE)⟩
theorem cw.more(h:cw E sz w B A n l)(aQ:B≤q)(aw:∀x cs,E w B x cs→E w q x cs):cw E sz w q A n l:=by
 refine⟨h.1,fun hn=>?_⟩;obtain⟨b,o,bG,aB,hc⟩:=h.2 hn;refine⟨b,o,bG,by omega,fun k x hx=>?_⟩;obtain⟨cs,he,hl,bd⟩:=hc k x hx;exact⟨cs,aw _ _ he,hl,bd⟩
end
def EF{α:Type}(f:α→List Value):World→Nat→α→List Value→Prop:=fun _ _ x cs=>cs=f x
section
variable {α:Type} {f:α→List Value} {sz:Nat} {w ab:World} {B q n:Nat} {A:Mt} {l:List α}
theorem cw.eB(h:cw (EF f) sz w B A n l)(O:Below B w ab):cw (EF f) sz ab B A n l:=h.ai O fun _ _ h=>h
theorem cw.JG(h:cw (EF f) sz w B A n l)(aQ:B≤q):cw (EF f) sz w q A n l:=h.more aQ fun _ _ h=>h
theorem cw.cZ(h:cw (EF f) sz w B A n l)(O:Below B w ab)(aQ:B≤q):cw (EF f) sz ab q A n l:=(h.eB O).JG aQ
theorem cw.Jp(h:cw (EF f) sz w B A n l){k:Nat}(aj:k<n) :
  ∃b o x,A=some ⟨b,o,none⟩∧b<B∧l[k]?=some x∧(f x).length=sz∧∀j v,(f x)[j]?=some v→w.cell? ⟨b,o+k*sz+j,none⟩=some v:=by
 obtain⟨b,o,bG,O,hc⟩:=h.2 (by omega);have hm:l[k]?=some (l[k]'(by have:=h.1;omega)):=List.getElem?_eq_getElem _;obtain⟨cs,he,hl,bd⟩:=hc k _ hm;rw[EF] at he;subst he;exact⟨b,o,_,bG,O,hm,hl,bd⟩
theorem cw.some_(h:cw (EF f) sz w B A n l)(aj:0<n):∃b o,A=some ⟨b,o,none⟩∧b<B:=by
 obtain⟨b,o,bG,O,_⟩:=h.2 aj;exact⟨b,o,bG,O⟩
end
theorem fW{α:Type}(f:α→List Value)(sz:Nat):∀(l:List α),(∀x∈l,(f x).length=sz)→∀k x,l[k]?=some x→∀j,j<sz→(l.flatMap f)[k*sz+j]?=(f x)[j]?
 | [],_,k,x,h,_,_=>by simp at h
 | a::l,hs,0,x,h,j,bd=>by
  have aZ:=hs a (by simp);simp only[List.getElem?_cons_zero,Option.some.injEq] at h;subst h;simp only[List.flatMap_cons,Nat.zero_mul,Nat.zero_add]
  rw[List.getElem?_append_left (by omega)]
 | a::l,hs,k+1,x,h,j,bd=>by
  have aZ:=hs a (by simp);simp only[List.getElem?_cons_succ] at h;have Z:=fW f sz l (fun y bb=>hs y (by simp[bb])) k x h j bd;simp only[List.flatMap_cons];rw[List.getElem?_append_right (by rw[aZ,Nat.succ_mul];omega),aZ,←Z];congr 1
  rw[Nat.succ_mul];omega
theorem gz{α:Type}(f:α→List Value)(sz:Nat)(l:List α)(hs:∀x∈l,(f x).length=sz):(l.flatMap f).length=l.length*sz:=by
 induction l with
 | nil=>simp
 | cons a l Z=>
  rw[List.flatMap_cons,List.length_append,hs a (by simp),Z (fun x hx=>hs x (by simp[hx])),List.length_cons,Nat.succ_mul];omega
theorem bT{w:World}{base:Nat}{e:TypeId}{sz:Nat}{v:Value}{n:Nat}{xs:List Value}(h:w.ownsRow base e sz v n xs) :
  ∃A c,v=.slice A n c∧n≤c∧c≤maxLen∧(A=none→n=0∧c=0)∧∀a,A=some a→∃g,a=⟨g,0,none⟩∧base≤g∧g<w.heap.size:=by
 rcases h.2 with⟨rfl,rfl⟩|⟨g,cap,cur,rfl,O,aR,hn,hc,_⟩
 ·exact⟨none,0,rfl,Nat.le_refl _,by simp,fun _=>⟨rfl,rfl⟩,fun _ h=>nomatch h⟩
 ·exact⟨_,_,rfl,hn,hc,(fun h=>nomatch h),fun a h=>(by injection h with h;exact⟨g,h.symm,O,(Array.getElem?_eq_some_iff.1 aR).1⟩)⟩
theorem jN{α:Type}{f:α→List Value}{w:World}{base:Nat}{e:TypeId}{sz:Nat}{A:Mt}{n c:Nat}{l:List α}
  (h:w.ownsRow base e sz (.slice A n c) n (l.flatMap f)) (hs:∀x∈l,(f x).length=sz) (hl:l.length=n):cw (EF f) sz w w.heap.size A n l:=by
 refine⟨hl,fun hn=>?_⟩;rcases h.2 with⟨bE,h0⟩|⟨g,cap,cur,bE,_,aR,aY,_,T,a⟩
 ·omega
 ·injection bE with bG _ _;subst bG;refine⟨g,0,rfl,(Array.getElem?_eq_some_iff.1 aR).1,fun k x hx=>⟨f x,rfl,hs x (List.mem_of_getElem? hx),fun j v bd=>?_⟩⟩;have r:j<sz:=by
   have:=hs x (List.mem_of_getElem? hx);have:=(List.getElem?_eq_some_iff.1 bd).1;omega
  have a8:k<l.length:=(List.getElem?_eq_some_iff.1 hx).1;have ce:=fW f sz l hs k x hx j r;rw[bd,←a,List.getElem?_take] at ce;split at ce
  ·rw[cell_of_row w g _ cur e (0,0) aR,Nat.zero_add];simpa using ce
  ·cases ce
theorem y6{w ab:World}{base B:Nat}{e:TypeId}{sz:Nat}{v:Value}{n:Nat}{xs:List Value}(h:w.ownsRow base e sz v n xs)(O:Below B w ab)(aQ:∀g,v.ownBlock=some g→g<B):ab.ownsRow base e sz v n xs:=by
 refine⟨h.1,?_⟩;rcases h.2 with ap|⟨g,cap,cur,rfl,j,aR,rest⟩
 ·exact .inl ap
 ·exact .inr ⟨g,cap,cur,rfl,j,(O.block g (aQ g rfl)).trans aR,rest⟩
theorem b2{w ab:World}{base:Nat}{e:TypeId}{sz:Nat}{v:Value}{n:Nat}{xs:List Value}(h:w.ownsRow base e sz v n xs)(O:Below w.heap.size w ab):ab.ownsRow base e sz v n xs:=
 y6 h O fun g aR=>(h.lt g aR).2
theorem g1{w:World}{base:Nat}{e:TypeId}{sz:Nat}{A:Mt}{n c:Nat}{xs:List Value}(h:w.ownsRow base e sz (.slice A n c) n xs)(hn:0<n) :
  ∃g,A=some ⟨g,0,none⟩∧base≤g∧g<w.heap.size∧(∀j u,xs[j]?=some u→w.cell? ⟨g,j,none⟩=some u)∧(∀j,w.frozen? ⟨g,j,none⟩=false)∧
   ∀j u,j<n*sz→(w.setCell ⟨g,j,none⟩ u).ownsRow base e sz (.slice A n c) n (xs.set j u):=by
 rcases h.2 with⟨bE,h0⟩|⟨g,cap,cur,bE,O,aR,aY,x,T,a⟩
 ·omega
 ·injection bE with bG _ hc;subst bG hc;refine⟨g,rfl,O,(Array.getElem?_eq_some_iff.1 aR).1,fun j u hu=>?_,fun j=>?_,fun j u bd=>⟨by rw[List.length_set];exact h.1,.inr ⟨g,c,cur.setIfInBounds j u,rfl,O,?_,aY,x,by simpa using T,?_⟩⟩⟩
  ·rw[←a,List.getElem?_take] at hu;split at hu
   ·rw[cell_of_row w g j cur e (0,0) aR];simpa using hu
   ·cases hu
  ·simp[World.frozen?,aR]
  ·simp[World.setCell,Array.getElem?_modify,aR]
  ·rw[←a,Array.toList_setIfInBounds,List.take_set]
theorem j1{α:Type}(f:α→List Value)(sz:Nat):∀(l:List α),(∀x∈l,(f x).length=sz)→∀k x,l[k]?=some x→∀j u y,j<sz→(f x).set j u=f y→(l.flatMap f).set (k*sz+j) u=(l.set k y).flatMap f
 | [],_,k,x,h,_,_,_,_,_=>by simp at h
 | a::l,hs,0,x,h,j,u,y,bd,bb=>by
  have aZ:=hs a (by simp);simp only[List.getElem?_cons_zero,Option.some.injEq] at h;subst h;simp only[List.flatMap_cons,Nat.zero_mul,Nat.zero_add,List.set_cons_zero]
  rw[List.set_append_left _ _ (by omega),bb]
 | a::l,hs,k+1,x,h,j,u,y,bd,bb=>by
  have aZ:=hs a (by simp);simp only[List.getElem?_cons_succ] at h;have Z:=j1 f sz l (fun y bb=>hs y (by simp[bb])) k x h j u y bd bb;simp only[List.flatMap_cons,List.set_cons_succ];rw[List.set_append_right _ _ (by rw[aZ,Nat.succ_mul];omega),aZ,←Z];congr 2
  rw[Nat.succ_mul];omega
theorem r3{P:Program}(w:World)(t e:TypeId)(a:Mt)(n c a6 aE:Nat)(h:P.underlying t=some (.slice e)) :
  (binOp .eql t (.slice a n c) (.slice none a6 aE)).run P w=.ok (.bool a.isNone) w:=by
 have key:∀d:Nat,(Op.equalIn (d+1) t (.slice a n c) (.slice none a6 aE)).run P w=.ok a.isNone w:=fun d=>by
  rcases a with _|a<;>simp[Op.equalIn,run_underlying h]
 simp only[binOp];simp[Op.equal,Op.maxDepth,key 9999]
def Src(w:World)(sz:Nat)(A:Mt)(m:Nat)(news:List Value):Prop:=
 news.length=m*sz∧(∀u∈news,u.oneCell'=true)∧(0<m→∃b o,A=some ⟨b,o,none⟩∧∀j u,news[j]?=some u→w.cell? ⟨b,o+j,none⟩=some u)
theorem Src.one{w:World}{b:Nat}{u:Value}(h:w.cell? ⟨b,0,none⟩=some u)(ac:u.oneCell'=true):Src w 1 (some ⟨b,0,none⟩) 1 [u]:=
 ⟨rfl,by simpa using ac,fun _=>⟨b,0,rfl,fun j v bd=>by
  cases j with
  | zero=>simp at bd;subst bd;exact h
  | succ j=>simp at bd⟩⟩
theorem Src.block{w:World}{g:Nat}{e:TypeId}{xs:Array Value}{sz:Nat}(aR:w.heap[g]?=some (.cells xs e (0,0)))(m:Nat)(hm:xs.size=m*sz)(ac:∀u∈xs.toList,u.oneCell'=true) :
  Src w sz (some ⟨g,0,none⟩) m xs.toList:=
 ⟨by simpa using hm,ac,fun _=>⟨g,0,rfl,fun j u bd=>by
  rw[Nat.zero_add,cell_of_row w g j xs e (0,0) aR];simpa using bd⟩⟩
theorem Src.jL{α:Type}{f:α→List Value}{sz:Nat}{w:World}{B n:Nat}{A:Mt}{l:List α}(h:cw (EF f) sz w B A n l)(hs:∀x∈l,(f x).length=sz)(ac:∀x∈l,∀u∈f x,u.oneCell'=true)(aL:0<sz) :
  Src w sz A n (l.flatMap f):=by
 refine⟨by rw[gz f sz l hs,h.1],fun u hu=>?_,fun hn=>?_⟩
 ·obtain⟨x,hx,hu⟩:=List.mem_flatMap.1 hu;exact ac x hx u hu
 ·obtain⟨b,o,bG,_,hc⟩:=h.2 hn;refine⟨b,o,bG,fun j u bd=>?_⟩;have bt:=(List.getElem?_eq_some_iff.1 bd).1;rw[gz f sz l hs] at bt;have a8:j / sz<l.length:=by rw[Nat.div_lt_iff_lt_mul aL];exact bt
  have hx:l[j / sz]?=some (l[j / sz]'a8):=List.getElem?_eq_getElem a8;have d:=Nat.mod_lt j aL;have a:j / sz*sz+j % sz=j:=Nat.div_add_mod' j sz;have ce:=fW f sz l hs _ _ hx (j % sz) d;rw[a,bd] at ce;obtain⟨cs,he,_,c⟩:=hc _ _ hx;rw[EF] at he;subst he;have:=c _ _ ce.symm
  rwa [Nat.add_assoc,a] at this
def cn(P:Program)(t e:TypeId)(z:Value)(size bytes:Nat):Prop:=
 ∃i,P.underlying t=some (.slice e)∧P.info? e=some i∧i.zero=some z∧i.size=size∧i.bytes=bytes∧z.cells.size=size∧0<size
theorem cn.mk'{P:Program}{t e:TypeId}{z:Value}{size bytes:Nat}(ht:P.underlying t=some (.slice e))(aX:(P.info? e).map (fun i=>(i.zero,i.size,i.bytes))=some (some z,size,bytes))(aL:z.cells.size=size)(h0:0<size):cn P t e z size bytes:=by
 obtain⟨i,ac,ap,aV,bz⟩:=info_parts aX;exact⟨i,ht,ac,ap,aV,bz,aL,h0⟩
section
variable {P:Program} (w:World)
theorem uO(base:Nat)(t ty e:TypeId)(i:TypeInfo)(size:Nat)(ht:P.underlying t=some (.slice e))(aX:P.info? e=some i)
  (v:Value) (n:Nat) (xs:List Value) (ao:w.ownsRow base e size v n xs) (c:Nat):(Builtin.append_ #[t,t] ty #[v,.slice none 0 c]).run P w=.ok v w:=by
 rcases ao.2 with⟨rfl,rfl⟩|⟨g,cap,cur,rfl,_,_,aY,_⟩
 ·simp[Builtin.append_,run_underlying ht,sizeOf,typeInfo,aX,Builtin.lenOf,Builtin.firstCells]
 ·simp[Builtin.append_,run_underlying ht,sizeOf,typeInfo,aX,Builtin.lenOf,Builtin.firstCells,aY,storeCells]
theorem GO{t e:TypeId}{z:Value}{size bytes:Nat}(bG:cn P t e z size bytes)(base:Nat)(ty:TypeId)(v:Value)(n:Nat)(xs:List Value)(ao:w.ownsRow base e size v n xs)
  (A:Mt) (m c:Nat) (news:List Value) (hs:Src w size A m news) (r:(n+m)*bytes≤140737488355328) (y:n+m≤140737488355328) (C:base≤w.heap.size) (aH:A=none→m=0) :
  ∃G ab,(Builtin.append_ #[t,t] ty #[v,.slice A m c]).run P w=.ok G ab∧ab.ownsRow base e size G (n+m) (xs++news)∧w.grownBy ab v.ownBlock∧
   (G.ownBlock=v.ownBlock∨G.ownBlock=some w.heap.size):=by
 obtain⟨i,ht,aX,aL,d,T,cU,U⟩:=bG;rcases A with _|a
 ·have hm:=aH rfl;subst hm;have hn:news=[]:=List.eq_nil_of_length_eq_zero (by simpa using hs.1);subst hn;exact⟨v,w,uO w base t ty e i size ht aX v n xs ao c,by simpa using ao,World.grownBy.refl w _,.inl rfl⟩
 ·have bA:∀j u,news[j]?=some u→w.cell? (a.add j)=some u:=by
   intro j u hu;rcases Nat.eq_zero_or_pos m with h0|h0
   ·subst h0;have hn:news=[]:=List.eq_nil_of_length_eq_zero (by simpa using hs.1);subst hn;simp at hu
   ·obtain⟨b,o,h,hc⟩:=hs.2.2 h0;injection h with h;subst h;have:=hc j u hu;by_cases bd:j=0
    ·subst bd;simpa[Addr.add] using this
    ·simpa[Addr.add,bd] using this
  obtain⟨G,ab,g,ap,aV,_,cI⟩:=run_append_own_at (P:=P) w base t ty e i z size bytes ht aX aL d T cU U v n xs ao a m c news hs.1 bA hs.2.1 (by simp only[maxLen];omega) r C;exact⟨G,ab,g,ap,aV,cI⟩
theorem km{o:Oper}{a:Act}{K:Act→World→Prop}{Q:Exit→Act→World→Prop}{t e:TypeId}{z:Value}{size bytes:Nat}(bG:cn P t e z size bytes)(s x:Operand)
  (bn:o.op=.call {callee:=.builtin .append,args:=#[s,x],argTypes:=#[t,t]})
  (base:Nat) (v:Value) (n:Nat) (xs:List Value) (hs:a.eval s=v) (ao:w.ownsRow base e size v n xs)
  (A:Mt) (m c:Nat) (news:List Value) (hx:a.eval x=.slice A m c) (a5:Src w size A m news)
  (r:(n+m)*bytes≤140737488355328) (y:n+m≤140737488355328) (C:base≤w.heap.size) (aH:A=none→m=0)
  (h:∀G ab,ab.ownsRow base e size G (n+m) (xs++news)→w.grownBy ab v.ownBlock→(G.ownBlock=v.ownBlock∨G.ownBlock=some w.heap.size)→K (a.put o.dst G) ab):o.wp P a w K Q:=by
 obtain⟨G,ab,g,ap,aV,bz⟩:=GO (P:=P) w bG base o.type v n xs ao A m c news a5 r y C aH;unfold Oper.wp execOp;simp only[bn,resolve,invoke,builtin,Sem.run_bind,Sem.run_pure,Result.andThen_ok,List.map_toArray,List.map_cons,List.map_nil,hs,hx,g];exact h G ab ap aV bz
theorem qQ{ops:Array Oper}{rest:List Oper}{o:Oper}{a:Act}{Q:Exit→Act→World→Prop}{t e:TypeId}{z:Value}{size bytes:Nat}(bG:cn P t e z size bytes)(i:o.guard=none)(s x:Operand)
  (bn:o.op=.call {callee:=.builtin .append,args:=#[s,x],argTypes:=#[t,t]})
  (base:Nat) (v:Value) (n:Nat) (xs:List Value) (hs:a.eval s=v) (ao:w.ownsRow base e size v n xs)
  (A:Mt) (m c:Nat) (news:List Value) (hx:a.eval x=.slice A m c) (a5:Src w size A m news)
  (r:(n+m)*bytes≤140737488355328) (y:n+m≤140737488355328) (C:base≤w.heap.size) (aH:A=none→m=0)
  (h:∀G ab,ab.ownsRow base e size G (n+m) (xs++news)→w.grownBy ab v.ownBlock→(G.ownBlock=v.ownBlock∨G.ownBlock=some w.heap.size)→wpList P ops Q rest (a.put o.dst G) ab):wpList P ops Q (o::rest) a w:=
 wpList_plain i fun _ hK=>km w bG s x bn base v n xs hs ao A m c news hx a5 r y C aH fun G ab ap aV bz=>hK _ _ (h G ab ap aV bz)
end
theorem cN{P:Program}(S:World){ops:Array Oper}{rest:List Oper}{o:Oper}{a:Act}{Q:Exit→Act→World→Prop}{t e:TypeId}{z:Value}{size bytes:Nat}(bG:cn P t e z size bytes)(i:o.guard=none)(s x:Operand)
  (bn:o.op=.call {callee:=.builtin .append,args:=#[s,x],argTypes:=#[t,t]})
  (base:Nat) (v:Value) (n:Nat) (xs:List Value) (cs:Array Value) (hs:a.eval s=v) (ao:S.ownsRow base e size v n xs)
  (hx:a.eval x=.slice (some ⟨S.heap.size,0,none⟩) 1 1) (T:cs.size=size) (ac:∀u∈cs.toList,u.oneCell'=true)
  (r:(n+1)*bytes≤140737488355328) (y:n+1≤140737488355328) (C:base≤S.heap.size)
  (h:∀G ab,ab.ownsRow base e size G (n+1) (xs++cs.toList)→S.grownBy ab v.ownBlock→(G.ownBlock=v.ownBlock∨G.ownBlock=some (S.heap.size+1))→wpList P ops Q rest (a.put o.dst G) ab):wpList P ops Q (o::rest) a (S.alloc (.cells cs e)):=by
 refine qQ _ bG i s x bn base v n xs hs (ao.alloc _) _ 1 1 cs.toList hx (Src.block (heap_alloc_new S _) 1 (by omega) ac) r y (by simp;omega) (fun h=>nomatch h) fun G ab ap aV bz=>?_;refine h G ab ap ⟨aV.os,aV.tape,aV.output,by have:=aV.size;simp at this;omega,fun k aj bi=>(aV.block k (by simp;omega) bi).trans (Below.heap_alloc S _ k aj)⟩ ?_;simpa using bz
theorem Src.on{w ab:World}{sz m:Nat}{A:Mt}{news:List Value}(h:Src w sz A m news)(O:Below w.heap.size w ab):Src ab sz A m news:=by
 refine⟨h.1,h.2.1,fun hm=>?_⟩;obtain⟨b,o,bG,hc⟩:=h.2.2 hm;refine⟨b,o,bG,fun j u bd=>?_⟩;have c:=hc j u bd;exact(O.cell (p:=⟨b,o+j,none⟩) (World.block_lt_of_cell? w _ c)).trans c
theorem db{P:Program}(S:World){ops:Array Oper}{rest:List Oper}{o:Oper}{a:Act}{Q:Exit→Act→World→Prop}{t e:TypeId}{z:Value}{size bytes:Nat}(bG:cn P t e z size bytes)(i:o.guard=none)(s x:Operand)
  (bn:o.op=.call {callee:=.builtin .append,args:=#[s,x],argTypes:=#[t,t]})
  (hs:a.eval s=.slice (some ⟨S.heap.size,0,none⟩) 0 0) (A:Mt) (m c:Nat) (news:List Value) (hx:a.eval x=.slice A m c) (a5:Src S size A m news)
  (r:m*bytes≤140737488355328) (y:m≤140737488355328) (aH:A=none→m=0)
  (h:∀I aE ab,ab.ownsRow S.heap.size e size (.slice I m aE) m news→Below S.heap.size S ab→wpList P ops Q rest (a.put o.dst (.slice I m aE)) ab):wpList P ops Q (o::rest) a (S.alloc (.cells #[] e)):=by
 have ao:(S.alloc (.cells #[] e)).ownsRow S.heap.size e size (.slice (some ⟨S.heap.size,0,none⟩) 0 0) 0 []:=World.ownsRow_made S #[] 0 (Nat.le_refl _) (Nat.zero_le _) (by simp);refine qQ _ bG i s x bn S.heap.size _ 0 [] hs ao A m c news hx (a5.on ((Below.refl _ _).alloc (Nat.le_refl _) _)) (by rw[Nat.zero_add];exact r) (by omega) (by simp) aH fun G ab ap aV bz=>?_;simp only[Nat.zero_add,List.nil_append] at ap;have O:Below S.heap.size S ab:=((Below.refl _ _).alloc (Nat.le_refl _) _).grown aV (by simp) (by simp[Value.ownBlock]);obtain⟨I,aE,rfl,_⟩:=bT ap;exact h I aE ab ap O
theorem gd{B:Nat}{a w ab:World}{base:Nat}{e:TypeId}{sz:Nat}{v:Value}{n:Nat}{xs:List Value}(h:Below B a w)(ao:w.ownsRow base e sz v n xs)(aR:w.grownBy ab v.ownBlock)(aQ:B≤base)(a7:B≤w.heap.size):Below B a ab:=
 h.grown aR a7 fun k aj=>Nat.le_trans aQ (ao.lt k aj).1
section
variable {P:Program} {t e:TypeId} {z:Value} {size bytes:Nat}
theorem run_mk(bG:cn P t e z size bytes)(kl kc:IntKind)(n:Nat)(O:bytes*n≤281474976710656)(y:n≤281474976710656)(w:World) :
  (Instr.makeSlice t (.int kl (n:Int)) (.int kc (n:Int))).run P w=.ok (.slice (some ⟨w.heap.size,0,none⟩) n n) (w.alloc (.cells (madeCells z.cells (n*size)) e)):=by
 obtain⟨i,ht,aX,aL,d,T,cU,U⟩:=bG;have a:(i.bytes:Int)*(n:Int)≤281474976710656:=by
  have h:((i.bytes*n:Nat):Int)≤281474976710656:=by rw[T];omega
  rwa [Int.natCast_mul] at h
 have a5:=run_make (P:=P) w t e i z ht aX aL kl kc n n (by omega) (by omega) a (by omega);simp only[Int.toNat_natCast] at a5;rw[a5,d]
theorem rQ{α:Type}{f:α→List Value}{x:α}{zc:Array Value}{sz:Nat}(aL:zc.toList=f x)(hs:(f x).length=sz)(h0:0<sz)(n:Nat):(madeCells zc (n*sz)).toList=(List.replicate n x).flatMap f:=by
 have cU:zc.size=sz:=by rw[←Array.length_toList,aL,hs]
 apply List.ext_getElem?
 intro j;by_cases bd:j<n*sz
 ·have aj:j / sz<n:=by rw[Nat.div_lt_iff_lt_mul h0];exact bd
  have hm:=Nat.mod_lt j h0;have hx:(List.replicate n x)[j / sz]?=some x:=by rw[List.getElem?_replicate,if_pos aj]
  have:=fW f sz (List.replicate n x) (fun y bb=>by rw[(List.mem_replicate.1 bb).2];exact hs) _ _ hx _ hm;rw[Nat.div_add_mod'] at this;rw[this,←aL];have a3:j % zc.size<zc.size:=by rw[cU];exact hm
  simp only[madeCells,Array.getElem?_toList,Array.getElem?_map,Array.getElem?_range,bd,if_pos,Option.map_some];rw[←cU,getElem!_pos zc _ a3,Array.getElem?_eq_getElem a3]
 ·rw[List.getElem?_eq_none (by rw[Array.length_toList,size_madeCells];omega),List.getElem?_eq_none (by rw[gz f sz _ (fun y bb=>by rw[(List.mem_replicate.1 bb).2];exact hs),List.length_replicate];omega)]
theorem wU{α:Type}{f:α→List Value}{x:α}{zc:Array Value}{sz:Nat}(aL:zc.toList=f x)(hs:(f x).length=sz)(h0:0<sz)(n:Nat)(hn:n≤281474976710656){w:World}{base:Nat}(O:base≤w.heap.size) :
  (w.alloc (.cells (madeCells zc (n*sz)) e)).ownsRow base e sz (.slice (some ⟨w.heap.size,0,none⟩) n n) n ((List.replicate n x).flatMap f):=by
 rw[←rQ aL hs h0 n];exact World.ownsRow_lit w _ n O (by unfold maxLen;omega) (size_madeCells _ _)
end
def cO(x:Int):List Value:=[.int .i64 x]
def oB(x:ByteArray):List Value:=[.string x]
theorem cw.int{w:World}{B n:Nat}{A:Mt}{l:List Int}(h:cw (EF cO) 1 w B A n l){k:Nat}(aj:k<n) :
  ∃b o x,A=some ⟨b,o,none⟩∧b<B∧l[k]?=some x∧w.cell? ⟨b,o+k,none⟩=some (.int .i64 x):=by
 obtain⟨b,o,x,bG,O,hx,_,hc⟩:=h.Jp aj;have:=hc 0 _ rfl;simp only[Nat.mul_one,Nat.add_zero] at this;exact⟨b,o,x,bG,O,hx,this⟩
theorem cw.str{w:World}{B n:Nat}{A:Mt}{l:Mu}(h:cw (EF oB) 1 w B A n l){k:Nat}(aj:k<n) :
  ∃b o x,A=some ⟨b,o,none⟩∧b<B∧l[k]?=some x∧w.cell? ⟨b,o+k,none⟩=some (.string x):=by
 obtain⟨b,o,x,bG,O,hx,_,hc⟩:=h.Jp aj;have:=hc 0 _ rfl;simp only[Nat.mul_one,Nat.add_zero] at this;exact⟨b,o,x,bG,O,hx,this⟩
theorem ua(l:List Int):l.flatMap cO=l.map (Value.int .i64):=by
 induction l with
 | nil=>rfl
 | cons a l Z=>rw[List.flatMap_cons,Z];rfl
theorem lF(l:List Int)(x:Int):(l++[x]).flatMap cO=l.flatMap cO++[.int .i64 x]:=by
 rw[List.flatMap_append];rfl
theorem kR(k:IntKind)(x:Int):∀u∈(#[Value.int k x]:Array Value).toList,u.oneCell'=true:=by
 intro u hu;simp at hu;subst hu;rfl
theorem gA(l:List Int):∀x∈l,(cO x).length=1:=fun _ _=>rfl
theorem row_slr{k:IntKind}{w:World}{a:Mt}{len cap:Nat}{b:List Int}
  (h:(a=none∧len=0∧cap=0∧b=[])∨∃x,a=some x∧len≤cap∧cap≤maxLen∧b.length=cap∧(∀i,i<b.length→w.cell? (x.add i)=some (.int k (b.getD i 0)))∧∀n∈b,(Lit.int k n).wf=true) (aj:k=.i64) :
  cw (EF cO) 1 w w.heap.size a len (b.take len):=by
 subst aj;rcases h with⟨rfl,rfl,rfl,rfl⟩|⟨x,rfl,cx,_,aL,hc,_⟩
 ·exact cw.bS _
 ·refine⟨by simp;omega,fun hn=>?_⟩;have h0:=hc 0 (by omega);have hx:x.spot=none:=by
   have ac:w.cell? x=some (.int .i64 (b.getD 0 0)):=by simpa[Addr.add] using h0
   cases hs:x.spot with
   | none=>rfl
   | some s=>
    rw[World.cell?] at ac;split at ac
    ·rw[hs] at ac;simp at ac
    ·cases ac
  have T:=World.block_lt_of_cell? w _ h0;refine⟨x.block,x.off,by rw[←hx],by simpa[Addr.add] using T,fun j v bd=>⟨cO v,rfl,rfl,fun i u hu=>?_⟩⟩;have bt:=(List.getElem?_eq_some_iff.1 bd).1;rw[List.length_take] at bt;have c:=hc j (by omega);rw[List.getElem?_take] at bd;split at bd
  ·have bE:b.getD j 0=v:=by rw[List.getD_eq_getElem?_getD,bd];rfl
   rw[bE] at c;have aX:i=0∧u=.int .i64 v:=by
    cases i with
    | zero=>simp[cO] at hu;exact⟨rfl,hu.symm⟩
    | succ i=>simp[cO] at hu
   obtain⟨rfl,rfl⟩:=aX;have aZ:x.add j=⟨x.block,x.off+j*1+0,none⟩:=by
    rw[Nat.mul_one,Nat.add_zero];unfold Addr.add;split
    ·rename_i aV;rw[aV,Nat.add_zero,←hx]
    ·rfl
   rw[aZ] at c;exact c
  ·cases bd
theorem cF:cn prog 22 3 (.int .i64 0) 1 8:=cn.mk' Tryz.underlying22 (by kernel_rfl) rfl (by omega)
inductive D where
 | i (n:Int)
 | b (x:Bool)
 | s (x:ByteArray)
 | st (l:List D)
 | sl (l:List D)
mutual
def D.rep(w:World)(P:Nat→Prop):D→List Value→Prop
 | .i n=>fun cs=>cs=[.int .i64 n]
 | .b x=>fun cs=>cs=[.bool x]
 | .s x=>fun cs=>cs=[.string x]
 | .st l=>fun cs=>D.aM w P l cs
 | .sl l=>fun cs=>∃A c,cs=[.slice A l.length c]∧l.length≤c∧(0<l.length→∃b o xs,A=some ⟨b,o,none⟩∧P b∧D.aM w P l xs∧∀j u,xs[j]?=some u→w.cell? ⟨b,o+j,none⟩=some u)
def D.aM(w:World)(P:Nat→Prop):List D→List Value→Prop
 | []=>fun cs=>cs=[]
 | d::l=>fun cs=>∃x y,cs=x++y∧D.rep w P d x∧D.aM w P l y
end
mutual
def D.sz:D→Nat
 | .i _=>1
 | .b _=>1
 | .s _=>1
 | .st l=>D.zi l
 | .sl _=>1
def D.zi:List D→Nat
 | []=>0
 | d::l=>D.sz d+D.zi l
end
mutual
theorem D.gD{w:World}{P:Nat→Prop}:∀(d:D) (cs:List Value),d.rep w P cs→cs.length=d.sz
 | .i n,cs,h=>by simp only[D.rep] at h;subst h;rfl
 | .b x,cs,h=>by simp only[D.rep] at h;subst h;rfl
 | .s x,cs,h=>by simp only[D.rep] at h;subst h;rfl
 | .st l,cs,h=>by simp only[D.rep] at h;simp only[D.sz];exact D.hy l cs h
 | .sl l,cs,h=>by simp only[D.rep] at h;obtain⟨A,c,rfl,_⟩:=h;rfl
theorem D.hy{w:World}{P:Nat→Prop}:∀(l:List D) (cs:List Value),D.aM w P l cs→cs.length=D.zi l
 | [],cs,h=>by simp only[D.aM] at h;subst h;rfl
 | d::l,cs,h=>by
  simp only[D.aM] at h;obtain⟨x,y,rfl,hx,bb⟩:=h;simp only[D.zi,List.length_append,D.gD d x hx,D.hy l y bb]
end
mutual
theorem D.aS{w ab:World}{P:Nat→Prop}(aj:∀b,P b→ab.heap[b]?=w.heap[b]?):∀(d:D) (cs:List Value),d.rep w P cs→d.rep ab P cs
 | .i n,cs,h=>by simpa only[D.rep] using h
 | .b x,cs,h=>by simpa only[D.rep] using h
 | .s x,cs,h=>by simpa only[D.rep] using h
 | .st l,cs,h=>by simp only[D.rep] at h ⊢;exact D.bG aj l cs h
 | .sl l,cs,h=>by
  simp only[D.rep] at h ⊢;obtain⟨A,c,T,hc,hn⟩:=h;refine⟨A,c,T,hc,fun h0=>?_⟩;obtain⟨b,o,xs,bG,O,a5,bd⟩:=hn h0;exact⟨b,o,xs,bG,O,D.bG aj l xs a5,fun j u hu=>(World.cell?_of_block (w:=w) (aj b O)).trans (bd j u hu)⟩
theorem D.bG{w ab:World}{P:Nat→Prop}(aj:∀b,P b→ab.heap[b]?=w.heap[b]?):∀(l:List D) (cs:List Value),D.aM w P l cs→D.aM ab P l cs
 | [],cs,h=>by simpa only[D.aM] using h
 | d::l,cs,h=>by
  simp only[D.aM] at h ⊢;obtain⟨x,y,rfl,hx,bb⟩:=h;exact⟨x,y,rfl,D.aS aj d x hx,D.bG aj l y bb⟩
end
mutual
theorem D.aK{w:World}{P de:Nat→Prop}(hp:∀b,P b→de b):∀(d:D) (cs:List Value),d.rep w P cs→d.rep w de cs
 | .i n,cs,h=>by simpa only[D.rep] using h
 | .b x,cs,h=>by simpa only[D.rep] using h
 | .s x,cs,h=>by simpa only[D.rep] using h
 | .st l,cs,h=>by simp only[D.rep] at h ⊢;exact D.bK hp l cs h
 | .sl l,cs,h=>by
  simp only[D.rep] at h ⊢;obtain⟨A,c,T,hc,hn⟩:=h;refine⟨A,c,T,hc,fun h0=>?_⟩;obtain⟨b,o,xs,bG,O,a5,bd⟩:=hn h0;exact⟨b,o,xs,bG,hp b O,D.bK hp l xs a5,bd⟩
theorem D.bK{w:World}{P de:Nat→Prop}(hp:∀b,P b→de b):∀(l:List D) (cs:List Value),D.aM w P l cs→D.aM w de l cs
 | [],cs,h=>by simpa only[D.aM] using h
 | d::l,cs,h=>by
  simp only[D.aM] at h ⊢;obtain⟨x,y,rfl,hx,bb⟩:=h;exact⟨x,y,rfl,D.aK hp d x hx,D.bK hp l y bb⟩
end
mutual
theorem D.tk{w:World}{P:Nat→Prop}:∀(d:D) (cs:List Value),d.rep w P cs→∀u∈cs,u.oneCell'=true
 | .i n,cs,h=>by simp only[D.rep] at h;subst h;simp[Value.oneCell']
 | .b x,cs,h=>by simp only[D.rep] at h;subst h;simp[Value.oneCell']
 | .s x,cs,h=>by simp only[D.rep] at h;subst h;simp[Value.oneCell']
 | .st l,cs,h=>by simp only[D.rep] at h;exact D.qB l cs h
 | .sl l,cs,h=>by simp only[D.rep] at h;obtain⟨A,c,rfl,_⟩:=h;simp[Value.oneCell']
theorem D.qB{w:World}{P:Nat→Prop}:∀(l:List D) (cs:List Value),D.aM w P l cs→∀u∈cs,u.oneCell'=true
 | [],cs,h=>by simp only[D.aM] at h;subst h;simp
 | d::l,cs,h=>by
  simp only[D.aM] at h;obtain⟨x,y,rfl,hx,bb⟩:=h;intro u hu;rcases List.mem_append.1 hu with hu|hu
  ·exact D.tk d x hx u hu
  ·exact D.qB l y bb u hu
end
theorem D.cA{w:World}{P:Nat→Prop}:∀{l m:List D} {x y:List Value},D.aM w P l x→D.aM w P m y→D.aM w P (l++m) (x++y)
 | [],m,x,y,hx,bb=>by simp only[D.aM] at hx;subst hx;exact bb
 | d::l,m,x,y,hx,bb=>by
  simp only[D.aM,List.cons_append] at hx ⊢;obtain⟨a,c,rfl,aZ,hc⟩:=hx;exact⟨a,c++y,by rw[List.append_assoc],aZ,D.cA hc bb⟩
theorem D.kd{w:World}{P:Nat→Prop}:∀{l m:List D} {x:List Value},D.aM w P (l++m) x→∃y z,x=y++z∧D.aM w P l y∧D.aM w P m z
 | [],m,x,h=>⟨[],x,rfl,by simp only[D.aM],h⟩
 | d::l,m,x,h=>by
  simp only[D.aM,List.cons_append] at h;obtain⟨a,c,rfl,aZ,hc⟩:=h;obtain⟨y,z,rfl,bb,aL⟩:=D.kd hc;exact⟨a++y,z,by rw[List.append_assoc],by simp only[D.aM];exact⟨a,y,rfl,aZ,bb⟩,aL⟩
theorem D.bg{w:World}{P:Nat→Prop}{d:D}{x:List Value}:D.aM w P [d] x↔d.rep w P x:=by
 simp only[D.aM];constructor
 ·rintro⟨a,b,rfl,aZ,rfl⟩;simpa using aZ
 ·intro h;exact⟨x,[],by simp,h,rfl⟩
theorem D.g7{z:Nat}:∀{l:List D},(∀d∈l,d.sz=z)→D.zi l=l.length*z
 | [],_=>by simp[D.zi]
 | d::l,h=>by
  have Z:D.zi l=l.length*z:=D.g7 (fun x hx=>h x (List.mem_cons_of_mem _ hx));simp only[D.zi,List.length_cons,Nat.succ_mul,h d (List.mem_cons_self),Z];omega
theorem D.mX{w:World}{P:Nat→Prop}{z:Nat}:∀{l:List D} {xs:List Value},D.aM w P l xs→(∀d∈l,d.sz=z)→∀{k:Nat} {d:D},l[k]?=some d→
  ∃cs,d.rep w P cs∧cs.length=z∧∀j u,cs[j]?=some u→xs[k*z+j]?=some u
 | [],xs,_,_,k,d,aj=>by simp at aj
 | e::l,xs,h,aL,0,d,aj=>by
  simp only[D.aM] at h;obtain⟨x,y,rfl,hx,_⟩:=h;simp only[List.getElem?_cons_zero,Option.some.injEq] at aj;subst aj;refine⟨x,hx,(D.gD _ _ hx).trans (aL e (by simp)),fun j u hu=>?_⟩;rw[Nat.zero_mul,Nat.zero_add,List.getElem?_append_left (List.getElem?_eq_some_iff.1 hu).1]
  exact hu
 | e::l,xs,h,aL,k+1,d,aj=>by
  simp only[D.aM] at h;obtain⟨x,y,rfl,hx,bb⟩:=h;simp only[List.getElem?_cons_succ] at aj;obtain⟨cs,a5,hl,bd⟩:=D.mX bb (fun x hx=>aL x (by simp[hx])) aj;have aY:=(D.gD _ _ hx).trans (aL e (by simp));refine⟨cs,a5,hl,fun j u hu=>?_⟩;rw[List.getElem?_append_right (by rw[aY,Nat.succ_mul];omega),aY,show (k+1)*z+j - z=k*z+j by rw[Nat.succ_mul];omega];exact bd j u hu
def Sl(w:World)(P:Nat→Prop)(A:Mt)(n:Nat)(l:List D):Prop:=
 l.length=n∧(0<n→∃b o xs,A=some ⟨b,o,none⟩∧P b∧D.aM w P l xs∧∀j u,xs[j]?=some u→w.cell? ⟨b,o+j,none⟩=some u)
section
variable {w ab:World} {P de:Nat→Prop} {A:Mt} {n z:Nat} {l:List D}
theorem D.tq{cs:List Value}:(D.sl l).rep w P cs↔∃A c n,cs=[.slice A n c]∧n≤c∧Sl w P A n l:=by
 simp only[D.rep,Sl];constructor
 ·rintro⟨A,c,rfl,hc,h⟩;exact⟨A,c,_,rfl,hc,rfl,h⟩
 ·rintro⟨A,c,n,rfl,hc,rfl,h⟩;exact⟨A,c,rfl,hc,h⟩
theorem Sl.bS(A:Mt):Sl w P A 0 []:=⟨rfl,fun h=>absurd h (by omega)⟩
theorem Sl.ai(h:Sl w P A n l)(aj:∀b,P b→ab.heap[b]?=w.heap[b]?):Sl ab P A n l:=by
 refine⟨h.1,fun hn=>?_⟩;obtain⟨b,o,xs,bG,O,a5,bd⟩:=h.2 hn;exact⟨b,o,xs,bG,O,D.bG aj l xs a5,fun j u hu=>(World.cell?_of_block (w:=w) (aj b O)).trans (bd j u hu)⟩
theorem Sl.mono(h:Sl w P A n l)(hp:∀b,P b→de b):Sl w de A n l:=by
 refine⟨h.1,fun hn=>?_⟩;obtain⟨b,o,xs,bG,O,a5,bd⟩:=h.2 hn;exact⟨b,o,xs,bG,hp b O,D.bK hp l xs a5,bd⟩
theorem Sl.some_(h:Sl w P A n l)(hn:0<n):∃b o,A=some ⟨b,o,none⟩∧P b:=by
 obtain⟨b,o,xs,bG,O,_⟩:=h.2 hn;exact⟨b,o,bG,O⟩
theorem Sl.none_(h:Sl w P none n l):n=0:=by
 rcases Nat.eq_zero_or_pos n with h0|h0
 ·exact h0
 ·obtain⟨b,o,bG,_⟩:=h.some_ h0;cases bG
theorem Sl.at_(h:Sl w P A n l)(aL:∀d∈l,d.sz=z){k:Nat}(aj:k<n) :
  ∃b o d cs,A=some ⟨b,o,none⟩∧P b∧l[k]?=some d∧d.rep w P cs∧cs.length=z∧∀j u,cs[j]?=some u→w.cell? ⟨b,o+k*z+j,none⟩=some u:=by
 obtain⟨b,o,xs,bG,O,a5,bd⟩:=h.2 (by omega);have hm:l[k]?=some (l[k]'(by have:=h.1;omega)):=List.getElem?_eq_getElem _;obtain⟨cs,hd,hl,hc⟩:=D.mX a5 aL hm;exact⟨b,o,_,cs,bG,O,hm,hd,hl,fun j u hu=>by rw[Nat.add_assoc];exact bd _ u (hc j u hu)⟩
theorem Sl.hf{α:Type}{enc:α→D}{l:List α}(h:Sl w P A n (l.map enc))(aL:∀x,(enc x).sz=z){k:Nat}(aj:k<n) :
  ∃b o x cs,A=some ⟨b,o,none⟩∧P b∧l[k]?=some x∧(enc x).rep w P cs∧cs.length=z∧∀j u,cs[j]?=some u→w.cell? ⟨b,o+k*z+j,none⟩=some u:=by
 obtain⟨b,o,d,cs,bG,O,hd,a5,hl,hc⟩:=h.at_ (z:=z) (fun d hd=>by obtain⟨x,_,rfl⟩:=List.mem_map.1 hd;exact aL x) aj;rw[List.getElem?_map] at hd
 cases hx:l[k]? with
 | none=>rw[hx] at hd;cases hd
 | some x=>
  rw[hx] at hd;injection hd with hd;subst hd;exact⟨b,o,x,cs,bG,O,rfl,a5,hl,hc⟩
theorem Sl.take(h:Sl w P A n l){m:Nat}(hm:m≤n):Sl w P A m (l.take m):=by
 refine⟨by have:=h.1;simp;omega,fun h0=>?_⟩;obtain⟨b,o,xs,bG,O,a5,bd⟩:=h.2 (by omega);rw[←List.take_append_drop m l] at a5;obtain⟨y,cX,rfl,bb,_⟩:=D.kd a5;exact⟨b,o,y,bG,O,bb,fun j u hu=>bd j u (by rw[List.getElem?_append_left (List.getElem?_eq_some_iff.1 hu).1];exact hu)⟩
theorem Sl.src(h:Sl w P A n l)(aL:∀d∈l,d.sz=z):∃xs,D.aM w P l xs∧Src w z A n xs:=by
 rcases Nat.eq_zero_or_pos n with hn|hn
 ·subst hn;have:l=[]:=List.eq_nil_of_length_eq_zero h.1;subst this;exact⟨[],by simp only[D.aM],by simp,by simp,fun h=>absurd h (by omega)⟩
 ·obtain⟨b,o,xs,bG,O,a5,bd⟩:=h.2 hn;exact⟨xs,a5,by rw[D.hy _ _ a5,D.g7 aL,h.1],D.qB l xs a5,fun _=>⟨b,o,bG,bd⟩⟩
theorem Sl.mQ{base:Nat}{e:TypeId}{c:Nat}{xs:List Value}(h:w.ownsRow base e z (.slice A n c) n xs)(a5:D.aM w P l xs)(hl:l.length=n)(bg:∀g,A=some ⟨g,0,none⟩→base≤g→g<w.heap.size→P g):Sl w P A n l:=by
 refine⟨hl,fun hn=>?_⟩;obtain⟨g,bG,O,aR,hc,_⟩:=g1 h hn;exact⟨g,0,xs,bG,bg g bG O aR,a5,fun j u hu=>by rw[Nat.zero_add];exact hc j u hu⟩
end
abbrev aq(w:World):Nat→Prop:=fun b=>b<w.heap.size
theorem D.on{w ab:World}{d:D}{cs:List Value}(h:d.rep w (aq w) cs)(O:Below w.heap.size w ab):d.rep ab (aq ab) cs:=
 D.aK (fun _ an=>Nat.lt_of_lt_of_le an O.size) _ _ (D.aS (fun b an=>O.block b an) _ _ h)
theorem Sl.on{w ab:World}{A:Mt}{n:Nat}{l:List D}(h:Sl w (aq w) A n l)(O:Below w.heap.size w ab):Sl ab (aq ab) A n l:=
 (h.ai (fun b an=>O.block b an)).mono (fun _ an=>Nat.lt_of_lt_of_le an O.size)
structure Fr(M:Nat→Prop)(w ab:World):Prop where
 os:ab.os=w.os
 tape:ab.tape=w.tape
 output:ab.output=w.output
 size:w.heap.size≤ab.heap.size
 block:∀k,k<w.heap.size→¬M k→ab.heap[k]?=w.heap[k]?
abbrev Ext:World→World→Prop:=Fr fun _=>False
section
variable {M M':Nat→Prop} {a b c:World}
theorem Fr.refl(M:Nat→Prop)(w:World):Fr M w w:=⟨rfl,rfl,rfl,Nat.le_refl _,fun _ _ _=>rfl⟩
theorem Fr.trans(h:Fr M a b)(k:Fr M b c):Fr M a c:=
 ⟨k.os.trans h.os,k.tape.trans h.tape,k.output.trans h.output,Nat.le_trans h.size k.size,fun i aX hn=>(k.block i (Nat.lt_of_lt_of_le aX h.size) hn).trans (h.block i aX hn)⟩
theorem Fr.mono(h:Fr M a b)(hM:∀k,M k→M' k):Fr M' a b:=⟨h.os,h.tape,h.output,h.size,fun k aj hn=>h.block k aj fun hm=>hn (hM k hm)⟩
theorem Fr.of(h:Below a.heap.size a b):Fr M a b:=⟨h.os,h.tape,h.output,h.size,fun k aj _=>h.block k aj⟩
theorem Fr.below{B:Nat}(h:Fr M a b)(aQ:B≤a.heap.size)(hM:∀k,k<B→¬M k):Below B a b:=⟨h.os,h.tape,h.output,h.size,fun k aj=>h.block k (Nat.lt_of_lt_of_le aj aQ) (hM k aj)⟩
theorem Fr.low(h:Fr M a b)(hM:∀k,M k→a.heap.size≤k):Ext a b:=⟨h.os,h.tape,h.output,h.size,fun k aj _=>h.block k aj fun hm=>by have:=hM k hm;omega⟩
theorem Fr.ext(h:Ext a b):Below a.heap.size a b:=h.below (Nat.le_refl _) fun _ _ h=>h
theorem Fr.drew(h:Fr M a b):Fr M a b.drew:=⟨h.os,h.tape,h.output,h.size,h.block⟩
theorem Fr.drewN(h:Fr M a b)(n:Nat):Fr M a (b.drewN n):=⟨h.os,h.tape,h.output,h.size,h.block⟩
theorem Fr.alloc(h:Fr M a b)(o:Obj):Fr M a (b.alloc o):=
 ⟨h.os,h.tape,h.output,by have:=h.size;simp;omega,fun k aj hn=>(Below.heap_alloc b o k (Nat.lt_of_lt_of_le aj h.size)).trans (h.block k aj hn)⟩
theorem Fr.setCell(h:Fr M a b){p:Addr}(hp:M p.block∨a.heap.size≤p.block)(v:Value):Fr M a (b.setCell p v):=by
 refine⟨h.os,h.tape,h.output,by simpa using h.size,fun k aj hn=>?_⟩;have:k≠p.block:=by
  rintro rfl;rcases hp with hp|hp
  ·exact hn hp
  ·omega
 rw[Below.heap_setCell _ _ _ _ this];exact h.block k aj hn
theorem Fr.eZ(h:Fr M a b)(k:Below a.heap.size b c):Fr M a c:=
 ⟨k.os.trans h.os,k.tape.trans h.tape,k.output.trans h.output,Nat.le_trans h.size k.size,fun i aX hn=>(k.block i aX).trans (h.block i aX hn)⟩
theorem Fr.grown{row:Option Nat}(h:Fr M a b)(aR:b.grownBy c row)(a5:∀g,row=some g→M g∨a.heap.size≤g):Fr M a c:=by
 refine⟨aR.os.trans h.os,aR.tape.trans h.tape,aR.output.trans h.output,Nat.le_trans h.size aR.size,fun k aj hn=>?_⟩;refine(aR.block k (Nat.lt_of_lt_of_le aj h.size) fun e=>?_).trans (h.block k aj hn);rcases a5 k e.symm with ac|ac
 ·exact hn ac
 ·omega
theorem Fr.cell(h:Fr M a b){k j:Nat}(aj:k<a.heap.size)(hn:¬M k):b.cell? ⟨k,j,none⟩=a.cell? ⟨k,j,none⟩:=World.cell?_of_block (h.block k aj hn)
theorem Fr.frozen(h:Fr M a b){k j:Nat}(aj:k<a.heap.size)(hn:¬M k):b.frozen? ⟨k,j,none⟩=a.frozen? ⟨k,j,none⟩:=by
 simp only[World.frozen?,h.block k aj hn]
theorem Fr.two(h:Fr M a b):(∀k j,k<a.heap.size→¬M k→b.cell? ⟨k,j,none⟩=a.cell? ⟨k,j,none⟩)∧(∀k j,k<a.heap.size→¬M k→b.frozen? ⟨k,j,none⟩=a.frozen? ⟨k,j,none⟩):=
 ⟨fun _ _ aj hn=>h.cell aj hn,fun _ _ aj hn=>h.frozen aj hn⟩
theorem Fr.qO(h:Ext a b):(∀k j,k<a.heap.size→b.cell? ⟨k,j,none⟩=a.cell? ⟨k,j,none⟩)∧(∀k j,k<a.heap.size→b.frozen? ⟨k,j,none⟩=a.frozen? ⟨k,j,none⟩):=
 ⟨fun _ _ aj=>h.cell aj (fun h=>h),fun _ _ aj=>h.frozen aj (fun h=>h)⟩
theorem Fr.twod(h:Fr M a.drew b):(∀k j,k<a.heap.size→¬M k→b.cell? ⟨k,j,none⟩=a.cell? ⟨k,j,none⟩)∧(∀k j,k<a.heap.size→¬M k→b.frozen? ⟨k,j,none⟩=a.frozen? ⟨k,j,none⟩):=
 ⟨fun _ _ aj hn=>h.cell aj hn,fun _ _ aj hn=>h.frozen aj hn⟩
theorem Fr.HV(h:Ext a.drew b):(∀k j,k<a.heap.size→b.cell? ⟨k,j,none⟩=a.cell? ⟨k,j,none⟩)∧(∀k j,k<a.heap.size→b.frozen? ⟨k,j,none⟩=a.frozen? ⟨k,j,none⟩):=
 ⟨fun _ _ aj=>h.cell aj (fun h=>h),fun _ _ aj=>h.frozen aj (fun h=>h)⟩
theorem Fr.jt(h:Ext a.drew.drew b):(∀k j,k<a.heap.size→b.cell? ⟨k,j,none⟩=a.cell? ⟨k,j,none⟩)∧(∀k j,k<a.heap.size→b.frozen? ⟨k,j,none⟩=a.frozen? ⟨k,j,none⟩):=
 ⟨fun _ _ aj=>h.cell aj (fun h=>h),fun _ _ aj=>h.frozen aj (fun h=>h)⟩
theorem Fr.JT(h:Fr M a.drew.drew b):(∀k j,k<a.heap.size→¬M k→b.cell? ⟨k,j,none⟩=a.cell? ⟨k,j,none⟩)∧(∀k j,k<a.heap.size→¬M k→b.frozen? ⟨k,j,none⟩=a.frozen? ⟨k,j,none⟩):=
 ⟨fun _ _ aj hn=>h.cell aj hn,fun _ _ aj hn=>h.frozen aj hn⟩
theorem Fr.aG(h:Fr M a.drew b):Fr M a b:=⟨h.os,h.tape,h.output,h.size,h.block⟩
end
abbrev off(M:Nat→Prop)(w:World):Nat→Prop:=fun b=>b<w.heap.size∧¬M b
section
variable {M:Nat→Prop} {w ab:World}
theorem uw(h:Fr M w ab):∀b,off M w b→off M ab b:=fun _ O=>⟨Nat.lt_of_lt_of_le O.1 h.size,O.2⟩
theorem D.cZ{d:D}{cs:List Value}(h:d.rep w (off M w) cs)(O:Fr M w ab):d.rep ab (off M ab) cs:=
 D.aK (uw O) _ _ (D.aS (fun b an=>O.block b an.1 an.2) _ _ h)
theorem Sl.cZ{A:Mt}{n:Nat}{l:List D}(h:Sl w (off M w) A n l)(O:Fr M w ab):Sl ab (off M ab) A n l:=
 (h.ai (fun b an=>O.block b an.1 an.2)).mono (uw O)
end
def au(w:World)(g:Nat)(t:TypeId)(cs:Array Value):Prop:=w.heap[g]?=some (.cells cs t (0,0))
section
variable {w ab:World} {g:Nat} {t:TypeId} {cs:Array Value} {M:Nat→Prop}
theorem au.lt(h:au w g t cs):g<w.heap.size:=by
 rcases Nat.lt_or_ge g w.heap.size with an|ak
 ·exact an
 ·unfold au at h;rw[Array.getElem?_eq_none ak] at h;cases h
theorem au.cell(h:au w g t cs)(i:Nat):w.cell? ⟨g,i,none⟩=cs[i]?:=cell_of_row w g i cs t (0,0) h
theorem au.frozen(h:au w g t cs)(i:Nat):w.frozen? ⟨g,i,none⟩=false:=by
 unfold au at h;simp[World.frozen?,h]
theorem au.two(h:au w g t cs):(∀i,w.cell? ⟨g,i,none⟩=cs[i]?)∧(∀i,w.frozen? ⟨g,i,none⟩=false)∧g<w.heap.size:=⟨h.cell,h.frozen,h.lt⟩
theorem au.new(w:World)(t:TypeId)(cs:Array Value):au (w.alloc (.cells cs t)) w.heap.size t cs:=heap_alloc_new w _
theorem au.gX(w:World)(t:TypeId)(cs:Array Value)(aR:g=w.heap.size):au (w.alloc (.cells cs t)) g t cs:=by
 subst aR;exact heap_alloc_new w _
theorem au.drew(h:au w g t cs):au w.drew g t cs:=h
theorem au.alloc(h:au w g t cs)(o:Obj):au (w.alloc o) g t cs:=(Below.heap_alloc w o g h.lt).trans h
theorem au.aN(h:au w g t cs)(i:Nat)(u:Value):au (w.setCell ⟨g,i,none⟩ u) g t (cs.setIfInBounds i u):=by
 unfold au at h ⊢;simp[World.setCell,Array.getElem?_modify,h]
theorem au.Kc(h:au w g t cs){p:Addr}(hp:g≠p.block)(u:Value):au (w.setCell p u) g t cs:=(Below.heap_setCell w p u g hp).trans h
theorem au.below{B:Nat}(h:au w g t cs)(O:Below B w ab)(aR:g<B):au ab g t cs:=(O.block g aR).trans h
theorem au.on(h:au w g t cs)(O:Fr M w ab)(aR:¬M g):au ab g t cs:=(O.block g h.lt aR).trans h
theorem au.aj(h:au w g t cs)(O:Ext w ab):au ab g t cs:=(O.block g h.lt fun h=>h).trans h
theorem au.grown{row:Option Nat}(h:au w g t cs)(O:w.grownBy ab row)(aR:some g≠row):au ab g t cs:=(O.block g h.lt aR).trans h
end
theorem PU:(∀(t:Array Value) (d:List Deferred) (i:Nat) (v:Value),Act.put ⟨t,d⟩ (some i) v=⟨t.setIfInBounds i v,d⟩)∧(∀(l:List Value) (i:Nat) (v:Value),l.toArray.setIfInBounds i v=(l.set i v).toArray)∧(∀(x v:Value) (l:List Value),(x::l).set 0 v=v::l)∧(∀(x v:Value) (l:List Value) (i:Nat),(x::l).set (i+1) v=x::l.set i v)∧
  (∀(l:List Oper) (i:Nat) (h:i<l.toArray.size),l.toArray[i]'h=l[i]'(by simpa using h))∧(∀(x:Oper) (l:List Oper) (h:0<(x::l).length),(x::l)[0]'h=x)∧(∀(x:Oper) (l:List Oper) (i:Nat) (h:i+1<(x::l).length),(x::l)[i+1]'h=l[i]'(by simpa using h)):=
 ⟨fun _ _ _ _=>rfl,fun _ _ _=>by simp,fun _ _ _=>rfl,fun _ _ _ _=>rfl,fun _ _ _=>by simp,fun _ _ _=>rfl,fun _ _ _ _=>rfl⟩
section
variable {P:Program} {ops:Array Oper} {Q:Exit→Act→World→Prop} {R:World→World→Prop} {M:Nat→Prop} {tails:List Nat} {i:Nat} {o:Oper} {v:Value} {a r:Act} {w:World}
theorem pf{rest:List (Nat×Nat)}(h:b9 P ops Q R rest r w)(aX:ops[i]?=some o:=by rfl)(hw:Region.wanted o (yielded ops a.tmps)=true:=by rfl)(bE:∀V,(execOp a.eval o).run P V=.ok (.value v) V:=by intro V;(go_simp<;>with_reducible rfl))(aZ:a.put o.dst v=r:=by (simp only[PU];rfl)) :
  b9 P ops Q R ((i,3)::rest) a w:=bs aX hw bE (aZ▸h)
theorem tf{rest:PT}(h:cS P ops Q R tails rest r w)(aX:ops[i]?=some o:=by rfl)(hw:Region.wanted o (yielded ops a.tmps)=true:=by rfl)(bE:∀V,(execOp a.eval o).run P V=.ok (.value v) V:=by intro V;(go_simp<;>with_reducible rfl))(aZ:a.put o.dst v=r:=by (simp only[PU];rfl)) :
  cS P ops Q R tails (.free i rest) a w:=ly aX hw bE (aZ▸h)
theorem ph{rest:List (Nat×Nat)}(h:b9 P ops Q R rest r w)(aX:ops[i]?=some o:=by rfl)(hw:Region.wanted o (yielded ops a.tmps)=true:=by rfl)(bE:∀V,R w V→(execOp a.eval o).run P V=.ok (.value v) V:=by intro V hV;obtain⟨hVc,hVf⟩:=Fr.HV hV;(go_simp<;>with_reducible rfl))(aZ:a.put o.dst v=r:=by (simp only[PU];rfl)) :
  b9 P ops Q R ((i,0)::rest) a w:=bJ aX hw bE (aZ▸h)
theorem th{rest:PT}(h:cS P ops Q R tails rest r w)(aX:ops[i]?=some o:=by rfl)(hw:Region.wanted o (yielded ops a.tmps)=true:=by rfl)(bE:∀V,R w V→(execOp a.eval o).run P V=.ok (.value v) V:=by intro V hV;obtain⟨hVc,hVf⟩:=Fr.HV hV;(go_simp<;>with_reducible rfl))(aZ:a.put o.dst v=r:=by (simp only[PU];rfl)) :
  cS P ops Q R tails (.held i rest) a w:=cC aX hw bE (aZ▸h)
theorem Le{rest:List (Nat×Nat)}(h:b9 P ops Q R rest r w)(aX:ops[i]?=some o:=by rfl)(hw:Region.wanted o (yielded ops a.tmps)=true:=by rfl)(bE:∀V,R w V→(execOp a.eval o).run P V=.ok (.value v) V:=by intro V hV;obtain⟨hVc,hVf⟩:=Fr.qO hV;(go_simp<;>with_reducible rfl))(aZ:a.put o.dst v=r:=by (simp only[PU];rfl)) :
  b9 P ops Q R ((i,0)::rest) a w:=bJ aX hw bE (aZ▸h)
theorem oH{rest:List (Nat×Nat)}(h:b9 P ops Q R rest r w)(aX:ops[i]?=some o:=by rfl)(hw:Region.wanted o (yielded ops a.tmps)=true:=by rfl)(bE:∀V,R w V→(execOp a.eval o).run P V=.ok (.value v) V:=by intro V hV;obtain⟨hVc,hVf⟩:=Fr.twod hV;(go_simp<;>with_reducible rfl))(aZ:a.put o.dst v=r:=by (simp only[PU];rfl)) :
  b9 P ops Q R ((i,0)::rest) a w:=bJ aX hw bE (aZ▸h)
theorem oI{rest:PT}(h:cS P ops Q R tails rest r w)(aX:ops[i]?=some o:=by rfl)(hw:Region.wanted o (yielded ops a.tmps)=true:=by rfl)(bE:∀V,R w V→(execOp a.eval o).run P V=.ok (.value v) V:=by intro V hV;obtain⟨hVc,hVf⟩:=Fr.twod hV;(go_simp<;>with_reducible rfl))(aZ:a.put o.dst v=r:=by (simp only[PU];rfl)) :
  cS P ops Q R tails (.held i rest) a w:=cC aX hw bE (aZ▸h)
theorem Lf{rest:List (Nat×Nat)}(h:b9 P ops Q R rest r w)(aX:ops[i]?=some o:=by rfl)(hw:Region.wanted o (yielded ops a.tmps)=true:=by rfl)(bE:∀V,R w V→(execOp a.eval o).run P V=.ok (.value v) V:=by intro V hV;obtain⟨hVc,hVf⟩:=Fr.two hV;(go_simp<;>with_reducible rfl))(aZ:a.put o.dst v=r:=by (simp only[PU];rfl)) :
  b9 P ops Q R ((i,0)::rest) a w:=bJ aX hw bE (aZ▸h)
theorem KU{rest:PT}(h:cS P ops Q R tails rest r w)(aX:ops[i]?=some o:=by rfl)(hw:Region.wanted o (yielded ops a.tmps)=true:=by rfl)(bE:∀V,R w V→(execOp a.eval o).run P V=.ok (.value v) V:=by intro V hV;obtain⟨hVc,hVf⟩:=Fr.two hV;(go_simp<;>with_reducible rfl))(aZ:a.put o.dst v=r:=by (simp only[PU];rfl)) :
  cS P ops Q R tails (.held i rest) a w:=cC aX hw bE (aZ▸h)
theorem GB{rest:List (Nat×Nat)}(h:b9 P ops Q R rest r w)(aX:ops[i]?=some o:=by rfl)(hw:Region.wanted o (yielded ops a.tmps)=true:=by rfl)(bE:∀V,R w V→(execOp a.eval o).run P V=.ok (.value v) V:=by intro V hV;obtain⟨hVc,hVf⟩:=Fr.JT hV;(go_simp<;>with_reducible rfl))(aZ:a.put o.dst v=r:=by (simp only[PU];rfl)) :
  b9 P ops Q R ((i,0)::rest) a w:=bJ aX hw bE (aZ▸h)
theorem rb{ab:World}{rest:List (Nat×Nat)}{M:Nat→Prop}(h:b9 P ops Q (Fr M) rest r ab)(aX:ops[i]?=some o:=by rfl)(hx:∀K:Act→World→Prop,K r ab→if Region.wanted o (yielded ops a.tmps)=true then o.wp P a w K Q else K (a.put o.dst undef) w:=by (intro K hK;go_simp;(try simp only[PU] at hK ⊢);exact hK))(cv:Fr M w ab:=by exact(Fr.refl _ _).alloc _) :
  b9 P ops Q (Fr M) ((i,1)::rest) a w:=aB aX fun K hK=>hx K (hK _ _ cv h)
theorem eu{ab:World}{p:PT}{M:Nat→Prop}(h:cS P ops Q (Fr M) tails p r ab)(aX:ops[i]?=some o:=by rfl)(hx:∀K:Act→World→Prop,K r ab→if Region.wanted o (yielded ops a.tmps)=true then o.wp P a w K Q else K (a.put o.dst undef) w:=by (intro K hK;go_simp;(try simp only[PU] at hK ⊢);exact hK))(cv:Fr M w ab:=by exact(Fr.refl _ _).alloc _)(hT:tails.contains i=false:=by rfl) :
  ox P ops Q (Fr M) tails i p a w:=aE aX (fun K hK=>hx K (hK _ _ cv h)) hT
end
section
variable {P:Program} {ops:Array Oper} {Q:Exit→Act→World→Prop} {M:Nat→Prop} {id:Nat} {a:Act} {w:World}
theorem eJ(M:Nat→Prop)(e:List (Nat×Nat))(h:b9 P ops Q (Fr M) e a w.drew)(ac:P.follows .mixedOrders=true:=by kernel_rfl)(ap:wX .any ops e=true:=by kernel_rfl)(bK:∀c a d v w,Q (.panic c) (a.put d v) w→Q (.panic c) a w:=by (intro _ _ d _ _ h;first|(cases d<;>exact h)|exact hQ0 _ _ _ _ _ h)):(Code.region id ops true).wp P Q a w:=
 kY (Fr M) e ac ap (Fr.refl _) (fun _ _ _ h k=>h.trans k) bK h
theorem r0(M:Nat→Prop)(tails:List Nat)(p:PT)(h:cS P ops Q (Fr M) tails p a w.drew)(ac:P.follows .mixedOrders=true:=by kernel_rfl)(ap:xn .any ops tails p=true:=by kernel_rfl)(bK:∀c a d v w,Q (.panic c) (a.put d v) w→Q (.panic c) a w:=by (intro _ _ d _ _ h;first|(cases d<;>exact h)|exact hQ0 _ _ _ _ _ h)):(Code.region id ops true).wp P Q a w:=
 qT (Fr M) tails p ac ap (Fr.refl _) (fun _ _ _ h k=>h.trans k) bK h
end
theorem dq{K:Act→World→Prop}{c:World→Prop}{b:Act→World→Prop}{a r:Act}{ab:World}(hK:∀r ab,c ab→b r ab→K r ab)(cv:c ab)(h:b r ab)(e:a=r:=by ((try simp only[PU]);rfl)):K a ab:=hK _ _ cv (e▸h)
theorem dX{K:Act→World→Prop}{b:Act→World→Prop}{a r:Act}{ab:World}(hK:∀r ab,b r ab→K r ab)(h:b r ab)(e:a=r:=by ((try simp only[PU]);rfl)):K a ab:=hK _ _ (e▸h)
end Go.Proofs.YtpkfopfkdgkfkaaGreat
