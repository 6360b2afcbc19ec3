/- Part 0 of the proof. No condition of its own. -/
import Derived.Deep.Draws
import Derived.Maps.AppendAt
import Derived.OrdersHeld
import Derived.StillTail
import Derived.Test.YtajlmkkidmjgoaaGreatDoorRows
import Derived.WalkKit
import Derived.WalkLawsBesides
import Derived.WalkSpells
namespace Go.Proofs.YtajlmkkidmjgoaaGreatDoor
open Go.RowKit Go.Proofs.Tryz
set_option maxRecDepth 1000000
set_option maxHeartbeats 25600000
set_option linter.unusedVariables false
abbrev IP:=Option Addr
abbrev IQ:=List ByteArray
def IS(p:Prop):Prop:=p
theorem IS.o{p:Prop}(h:IS p):p:=h
section
variable {P:Program} {ops:Array Oper} {Q:Exit→Act→World→Prop} {md:Region.Mode} {R:World→World→Prop} {T:Nat→Bool}
def jL(P:Program)(md:Region.Mode)(ops:Array Oper)(Q:Exit→Act→World→Prop)(R:World→World→Prop)(T:Nat→Bool):Nat→Array Bool→Act→World→Prop
 | 0,listed,a,w=>Region.ready md ops listed=[]∧Q .normal a w
 | fuel+1,listed,a,w=>
  (Region.ready md ops listed=[]→Q .normal a w)∧
  ∀i∈Region.ready md ops listed,wpOp P ops Q i (fun r ab=>(T i=true→R w ab)∧jL P md ops Q R T fuel (listed.setIfInBounds i true) r ab) a w
theorem lO:∀(fuel:Nat) (listed:Array Bool) (a:Act) (w:World),jL P md ops Q R T fuel listed a w→wpAny P md ops Q fuel listed a w
 | 0,_,_,_,h=>h
 | fuel+1,_,_,_,h=>⟨h.1,fun i ak=>wpOp_mono (fun r ab F=>lO fuel _ r ab F.2) (h.2 i ak)⟩
def jn(md:Region.Mode)(ops:Array Oper)(listed:Array Bool):Prop:=
 ∀j g,ops[j]?=some g→listed.getD j false=true→∀e∈g.after,Region.binds md e=true→listed.getD e.on false=true
theorem jn.set{i:Nat}{listed:Array Bool}(inv:jn md ops listed)(ak:i∈Region.ready md ops listed):jn md ops (listed.setIfInBounds i true):=by
 obtain⟨_,s,a,y⟩:=mem_ready.1 ak;intro j g a1 hl e he O;by_cases u:i=j
 ·subst u;have:g=s:=Option.some.inj (a1.symm.trans a);subst this;exact getD_set_true (y e he O)
 ·rw[getD_set_ne false u] at hl;exact getD_set_true (inv j g a1 hl e he O)
def AE(md:Region.Mode)(ops:Array Oper):Nat→Nat→Nat→Bool
 | 0,_,_=>false
 | f+1,j,i=>match ops[j]? with
  | none=>false
  | some g=>g.after.any fun e=>Region.binds md e && (e.on == i || AE md ops f e.on i)
theorem AF{i:Nat}{listed:Array Bool}(inv:jn md ops listed):∀(f j:Nat),AE md ops f j i=true→
  (∃g,ops[j]?=some g∧∀e∈g.after,Region.binds md e=true→listed.getD e.on false=true)→listed.getD i false=true:=by
 intro f
 induction f with
 | zero=>intro j h;simp[AE] at h
 | succ f aa=>
  intro j h a1;obtain⟨g,bu,y⟩:=a1;simp only[AE,bu] at h;obtain⟨e,he,O⟩:=Array.any_eq_true'.1 h;simp only[Bool.and_eq_true,Bool.or_eq_true,beq_iff_eq] at O;have hl:=y e he O.1;rcases O.2 with J|J
  ·rw[←J];exact hl
  ·refine aa e.on J ?_
   cases ap:ops[e.on]? with
   | none=>cases f<;>simp[AE,ap] at J
   | some ok=>exact⟨ok,rfl,fun l a aX=>inv e.on ok ap hl l a aX⟩
theorem hj{i:Nat}{s:Oper}{v:Value}{U:World→World→Prop}(t:∀a b c,R a b→U b c→U a c)(l:∀a,R a a)(B:∀a,U a a)(ak:ops[i]?=some s)(q:∀(j:Nat) (o:Oper) cs b,ops[j]?=some o→o.op≠.select cs b)
  (hQ:∀c a w,Q (.panic c) (a.put s.dst v) w→Q (.panic c) a w) (a5:(∀a b,U a b)∨∀j,T j=false→∃f,AE md ops f j i=true) :
  ∀(fuel:Nat) (listed:Array Bool) (a:Act) (w:World),jn md ops listed→
   (∀j g,ops[j]?=some g→j≠i→listed.getD j true=false→(∀e∈g.after,Region.binds md e=true→e.on≠i)→s.apart ops g=true)→
   i∈Region.ready md ops listed→YieldsIf P ops (U w) s v a→
   jL P md ops Q R T fuel (listed.setIfInBounds i true) (a.put s.dst v) w→jL P md ops Q R T (fuel+1) listed a w:=by
 intro fuel
 induction fuel with
 | zero=>
  intro listed a w _ _ aY a4 H;refine⟨fun h=>(by rw[h] at aY;cases aY),fun j a1=>?_⟩;by_cases G:j=i
  ·subst G;exact a4.wpOp ak (B w) ⟨fun _=>l w,H⟩
  ·have:=ready_mono a1 G;rw[H.1] at this
   cases this
 | succ fuel aa=>
  intro listed a w inv I aY a4 H;refine⟨fun h=>(by rw[h] at aY;cases aY),fun j a1=>?_⟩;by_cases G:j=i
  ·subst G;exact a4.wpOp ak (B w) ⟨fun _=>l w,H⟩
  ·have ac:=H.2 j (ready_mono a1 G);obtain⟨z,g,x,y⟩:=mem_ready.1 a1;have p:=(mem_ready.1 aY).1;have A:∀e∈g.after,Region.binds md e=true→e.on≠i:=fun e he O heq=>by
    have ac:=y e he O;have h0:=p;rw[heq] at ac;rcases Nat.lt_or_ge i listed.size with F|F
    ·simp[F] at h0 ac;rw[h0] at ac;cases ac
    ·simp[Array.getElem?_eq_none F] at ac
   have n:(∀a b,U a b)∨T j=true:=by
    rcases a5 with a5|a5
    ·exact .inl a5
    refine .inr ?_
    cases n:T j with
    | true=>rfl
    | false=>
     obtain⟨f,aA⟩:=a5 j n;have:=AF inv f j aA ⟨g,x,y⟩;rcases Nat.lt_or_ge i listed.size with F|F
     ·simp[F] at p this;rw[p] at this;cases this
     ·simp[Array.getElem?_eq_none F] at this
   have J:=wpOp_putIf (S:=U w) x (I j g x G z A) (fun cs b=>q i s cs b ak) (fun cs b=>q j g cs b x) hQ a4 ac;have u:∀k ok,ops[k]?=some ok→k≠i→(listed.setIfInBounds j true).getD k true=false→
     (∀e∈ok.after,Region.binds md e=true→e.on≠i)→s.apart ops ok=true:=fun k ok ap D C ct=>by
    refine I k ok ap D ?_ ct;by_cases m:j=k
    ·subst m;exact z
    ·rw[getD_set_ne true m] at C;exact C
   refine wpOp_mono (fun r ab aR=>?_) J;have d:YieldsIf P ops (U ab) s v r:=aR.1.imp (fun⟨hw,bC⟩=>⟨hw,fun V hV=>bC V (n.elim (fun h=>h _ _) fun h=>t _ _ _ (aR.2.1 h) hV)⟩) id;refine⟨aR.2.1,aa (listed.setIfInBounds j true) r ab (inv.set a1) u (ready_mono aY (Ne.symm G)) d ?_⟩;rw[Array.setIfInBounds_comm _ _ G];exact aR.2.2
def bQ(P:Program)(ops:Array Oper)(Q:Exit→Act→World→Prop)(R:World→World→Prop):List (Nat×Nat)→Act→World→Prop
 | [],a,w=>Q .normal a w
 | (i,0)::rest,a,w=>∃o v,ops[i]?=some o∧YieldsIf P ops (R w) o v a∧bQ P ops Q R rest (a.put o.dst v) w
 | (i,3)::rest,a,w=>∃o v,ops[i]?=some o∧YieldsIf P ops (fun _=>True) o v a∧bQ P ops Q R rest (a.put o.dst v) w
 | (i,k+1)::rest,a,w=>∃o,ops[i]?=some o∧∀K:Act→World→Prop,(∀r ab,(k=0→R w ab)→bQ P ops Q R rest r ab→K r ab)→
   (if Region.wanted o (yielded ops a.tmps)=true then o.wp P a w K Q else K (a.put o.dst undef) w)
def k3(md:Region.Mode)(ops:Array Oper):List (Nat×Nat)→Array Bool→Bool
 | [],listed=>(Region.ready md ops listed).isEmpty
 | (i,0)::rest,listed=>Region.free md ops listed i && (Region.ready md ops listed).contains i && k3 md ops rest (listed.setIfInBounds i true)
 | (i,3)::rest,listed=>Region.free md ops listed i && (Region.ready md ops listed).contains i && k3 md ops rest (listed.setIfInBounds i true)
 | (i,_+1)::rest,listed=>(Region.ready md ops listed == [i]) && k3 md ops rest (listed.setIfInBounds i true)
def mA(e:List (Nat×Nat)):List Nat:=(e.filter fun p=>decide (2=p.2)).map (·.1)
def uK(md:Region.Mode)(ops:Array Oper)(e:List (Nat×Nat)):Bool:=
 Region.noSelect ops && (e.length == ops.size) && (e.all fun p=>decide (p.2≤3)) && (e.all fun p=>decide (p.2=1∨p.2=2∨p.2=3) || (mA e).all fun j=>AE md ops ops.size j p.1) && k3 md ops e (Array.replicate ops.size false)
theorem h6(t:∀a b c,R a b→R b c→R a c)(l:∀a,R a a)(q:∀(j:Nat) (o:Oper) cs b,ops[j]?=some o→o.op≠.select cs b)
  (hQ:∀c a d v w,Q (.panic c) (a.put d v) w→Q (.panic c) a w) :
  ∀(e:List (Nat×Nat)) (listed:Array Bool) (a:Act) (w:World),jn md ops listed→k3 md ops e listed=true→
   (∀p∈e,p.2=0→∀j,T j=false→∃f,AE md ops f j p.1=true)→(∀p∈e,2=p.2→T p.1=false)→(∀p∈e,p.2≤3)→
   bQ P ops Q R e a w→jL P md ops Q R T e.length listed a w
 | [],listed,a,w,_,aS,_,_,_,h=>⟨by simpa[k3] using aS,h⟩
 | (i,0)::rest,listed,a,w,inv,aS,h0,J,aR,h=>by
  obtain⟨o,v,ak,a4,h⟩:=h;simp only[k3,Bool.and_eq_true] at aS;have aY:i∈Region.ready md ops listed:=by simpa using aS.1.2
  exact hj (U:=R) t l l ak q (fun c a w=>hQ c a _ _ w) (.inr (h0 (i,0) (by simp) rfl)) rest.length listed a w inv (Region.free_spec ak aS.1.1) aY a4
   (h6 t l q hQ rest _ _ _ (inv.set aY) aS.2 (fun p hp=>h0 p (by simp[hp])) (fun p hp=>J p (by simp[hp])) (fun p hp=>aR p (by simp[hp])) h)
 | (i,3)::rest,listed,a,w,inv,aS,h0,J,aR,h=>by
  obtain⟨o,v,ak,a4,h⟩:=h;simp only[k3,Bool.and_eq_true] at aS;have aY:i∈Region.ready md ops listed:=by simpa using aS.1.2
  exact hj (U:=fun _ _=>True) (fun _ _ _ _ _=>trivial) l (fun _=>trivial) ak q (fun c a w=>hQ c a _ _ w) (.inl fun _ _=>trivial) rest.length listed a w inv (Region.free_spec ak aS.1.1) aY a4
   (h6 t l q hQ rest _ _ _ (inv.set aY) aS.2 (fun p hp=>h0 p (by simp[hp])) (fun p hp=>J p (by simp[hp])) (fun p hp=>aR p (by simp[hp])) h)
 | (i,1)::rest,listed,a,w,inv,aS,h0,J,aR,h=>by
  obtain⟨o,ak,h⟩:=h;simp only[k3,Bool.and_eq_true,beq_iff_eq] at aS;have aY:i∈Region.ready md ops listed:=by rw[aS.1];simp
  refine⟨fun h0=>(by rw[h0] at aY;cases aY),fun j a1=>?_⟩;rw[aS.1] at a1;have G:j=i:=by simpa using a1
  subst G;have g:=h (fun r ab=>(T j=true→R w ab)∧jL P md ops Q R T rest.length (listed.setIfInBounds j true) r ab) fun r ab cy hp=>
   ⟨fun a5=>cy rfl,h6 t l q hQ rest _ _ _ (inv.set aY) aS.2 (fun p hp=>h0 p (by simp[hp])) (fun p hp=>J p (by simp[hp])) (fun p hp=>aR p (by simp[hp])) hp⟩
  unfold Go.wpOp;simp only[ak];split
  ·rename_i hw;rw[if_pos hw] at g;exact .inl g
  ·rename_i hw;rw[if_neg hw] at g
   exact g
 | (i,2)::rest,listed,a,w,inv,aS,h0,J,aR,h=>by
  obtain⟨o,ak,h⟩:=h;simp only[k3,Bool.and_eq_true,beq_iff_eq] at aS;have aY:i∈Region.ready md ops listed:=by rw[aS.1];simp
  refine⟨fun h0=>(by rw[h0] at aY;cases aY),fun j a1=>?_⟩;rw[aS.1] at a1;have G:j=i:=by simpa using a1
  subst G;have n:T j=false:=J (j,2) (by simp) rfl;have g:=h (fun r ab=>(T j=true→R w ab)∧jL P md ops Q R T rest.length (listed.setIfInBounds j true) r ab) fun r ab _ hp=>
   ⟨fun a5=>(by rw[n] at a5;cases a5),h6 t l q hQ rest _ _ _ (inv.set aY) aS.2 (fun p hp=>h0 p (by simp[hp])) (fun p hp=>J p (by simp[hp])) (fun p hp=>aR p (by simp[hp])) hp⟩
  unfold Go.wpOp;simp only[ak];split
  ·rename_i hw;rw[if_pos hw] at g;exact .inl g
  ·rename_i hw;rw[if_neg hw] at g
   exact g
 | (i,k+4)::rest,listed,a,w,inv,aS,h0,J,aR,h=>absurd (aR (i,k+4) (by simp)) (by simp)
theorem ks(R:World→World→Prop)(e:List (Nat×Nat)){id:Nat}{a:Act}{w:World}(hm:P.follows .mixedOrders=true)(aS:uK .any ops e=true)
  (l:∀a,R a a) (t:∀a b c,R a b→R b c→R a c) (hQ:∀c a d v w,Q (.panic c) (a.put d v) w→Q (.panic c) a w)
  (h:bQ P ops Q R e a w.drew):(Code.region id ops true).wp P Q a w:=by
 simp only[uK,Bool.and_eq_true,beq_iff_eq] at aS;obtain⟨⟨⟨⟨hs,hl⟩,aR⟩,ht⟩,hp⟩:=aS;refine wp_region_any hm (lO (R:=R) (T:=fun j=>!(mA e).contains j) _ _ _ _ ?_);rw[←hl];refine h6 t l (Region.noSelect_spec hs) hQ e _ a _ (fun j g _ a1=>?_) (by rw[hl];exact hp) (fun p fP i j a1=>?_) (fun p fP k=>?_) (fun p fP=>?_) h
 ·rw[getD_replicate_false] at a1;cases a1
 ·have ac:=List.all_eq_true.1 ht p fP;rw[i] at ac;have f:j∈mA e:=by simpa using a1
  have J:((mA e).all fun j=>AE .any ops ops.size j p.1)=true:=by simpa using ac
  exact⟨_,List.all_eq_true.1 J j f⟩
 ·have:p.1∈mA e:=List.mem_map.2 ⟨p,List.mem_filter.2 ⟨fP,by simpa using k⟩,rfl⟩;simpa using this
 ·exact List.all_eq_true.1 aR p fP |> of_decide_eq_true
theorem bB{i:Nat}{o:Oper}{v:Value}{rest:List (Nat×Nat)}{a:Act}{w:World}(ak:ops[i]?=some o)(hw:Region.wanted o (yielded ops a.tmps)=true)
  (bC:∀V,R w V→(execOp a.eval o).run P V=.ok (.value v) V) (h:bQ P ops Q R rest (a.put o.dst v) w):bQ P ops Q R ((i,0)::rest) a w:=
 ⟨o,v,ak,.inl ⟨hw,bC⟩,h⟩
theorem hy{i:Nat}{o:Oper}{rest:List (Nat×Nat)}{a:Act}{w:World}(ak:ops[i]?=some o)(hw:Region.wanted o (yielded ops a.tmps)=false)
  (h:bQ P ops Q R rest (a.put o.dst undef) w):bQ P ops Q R ((i,0)::rest) a w:=
 ⟨o,undef,ak,.inr ⟨hw,rfl⟩,h⟩
theorem a9{i:Nat}{o:Oper}{v:Value}{rest:List (Nat×Nat)}{a:Act}{w:World}(ak:ops[i]?=some o)(hw:Region.wanted o (yielded ops a.tmps)=true)
  (bC:∀V,(execOp a.eval o).run P V=.ok (.value v) V) (h:bQ P ops Q R rest (a.put o.dst v) w):bQ P ops Q R ((i,3)::rest) a w:=
 ⟨o,v,ak,.inl ⟨hw,fun V _=>bC V⟩,h⟩
theorem c4{i:Nat}{o:Oper}{rest:List (Nat×Nat)}{a:Act}{w:World}(ak:ops[i]?=some o)(hw:Region.wanted o (yielded ops a.tmps)=false)
  (h:bQ P ops Q R rest (a.put o.dst undef) w):bQ P ops Q R ((i,3)::rest) a w:=
 ⟨o,undef,ak,.inr ⟨hw,rfl⟩,h⟩
theorem aD{i:Nat}{o:Oper}{rest:List (Nat×Nat)}{a:Act}{w:World}(ak:ops[i]?=some o)
  (h:∀K:Act→World→Prop,(∀r ab,R w ab→bQ P ops Q R rest r ab→K r ab)→if Region.wanted o (yielded ops a.tmps)=true then o.wp P a w K Q else K (a.put o.dst undef) w) :
  bQ P ops Q R ((i,1)::rest) a w:=
 ⟨o,ak,fun K hK=>h K fun r ab cy hp=>hK r ab (fun _=>cy) hp⟩
theorem au{i:Nat}{o:Oper}{rest:List (Nat×Nat)}{a:Act}{w:World}(ak:ops[i]?=some o)
  (h:∀K:Act→World→Prop,(∀r ab,bQ P ops Q R rest r ab→K r ab)→if Region.wanted o (yielded ops a.tmps)=true then o.wp P a w K Q else K (a.put o.dst undef) w) :
  bQ P ops Q R ((i,2)::rest) a w:=
 ⟨o,ak,fun K hK=>h K fun r ab hp=>hK r ab (fun h=>absurd h (by decide)) hp⟩
theorem aB{a:Act}{w:World}(h:Q .normal a w):bQ P ops Q R [] a w:=h
end
inductive PT where
 | stop
 | free (i:Nat) (rest:PT)
 | held (i:Nat) (rest:PT)
 | pick (is:List Nat) (f:Nat→PT)
section
variable {P:Program} {ops:Array Oper} {Q:Exit→Act→World→Prop} {md:Region.Mode} {R:World→World→Prop}
def di(P:Program)(ops:Array Oper)(Q:Exit→Act→World→Prop)(R:World→World→Prop)(tails:List Nat):PT→Act→World→Prop
 | .stop,a,w=>Q .normal a w
 | .free i rest,a,w=>∃o v,ops[i]?=some o∧YieldsIf P ops (fun _=>True) o v a∧di P ops Q R tails rest (a.put o.dst v) w
 | .held i rest,a,w=>∃o v,ops[i]?=some o∧YieldsIf P ops (R w) o v a∧di P ops Q R tails rest (a.put o.dst v) w
 | .pick is f,a,w=>∀i∈is,∃o,ops[i]?=some o∧∀K:Act→World→Prop,(∀r ab,(tails.contains i=false→R w ab)→di P ops Q R tails (f i) r ab→K r ab)→
   (if Region.wanted o (yielded ops a.tmps)=true then o.wp P a w K Q else K (a.put o.dst undef) w)
def mB(md:Region.Mode)(ops:Array Oper):PT→Nat→Array Bool→Bool
 | .stop,n,listed=>n == 0 && (Region.ready md ops listed).isEmpty
 | .free i rest,n,listed=>decide (0<n) && (Region.free md ops listed i && (Region.ready md ops listed).contains i && mB md ops rest (n - 1) (listed.setIfInBounds i true))
 | .held i rest,n,listed=>decide (0<n) && (Region.free md ops listed i && (Region.ready md ops listed).contains i && mB md ops rest (n - 1) (listed.setIfInBounds i true))
 | .pick is f,n,listed=>decide (0<n) && (!is.isEmpty && (Region.ready md ops listed == is) && is.all fun i=>mB md ops (f i) (n - 1) (listed.setIfInBounds i true))
def PT.nw:PT→List Nat
 | .stop=>[]
 | .free _ rest=>rest.nw
 | .held i rest=>i::rest.nw
 | .pick is f=>is.flatMap fun i=>(f i).nw
def vh(md:Region.Mode)(ops:Array Oper)(tails:List Nat)(p:PT):Bool:=
 Region.noSelect ops && (p.nw.all fun i=>tails.all fun j=>AE md ops ops.size j i) && mB md ops p ops.size (Array.replicate ops.size false)
theorem vl(tails:List Nat)(t:∀a b c,R a b→R b c→R a c)(l:∀a,R a a)(q:∀(j:Nat) (o:Oper) cs b,ops[j]?=some o→o.op≠.select cs b)
  (hQ:∀c a d v w,Q (.panic c) (a.put d v) w→Q (.panic c) a w) :
  ∀(p:PT) (n:Nat) (listed:Array Bool) (a:Act) (w:World),jn md ops listed→mB md ops p n listed=true→
   (∀i∈p.nw,∀j∈tails,∃f,AE md ops f j i=true)→di P ops Q R tails p a w→jL P md ops Q R (fun j=>!tails.contains j) n listed a w:=by
 intro p
 induction p with
 | stop=>
  intro n listed a w _ aS _ h;simp only[mB,Bool.and_eq_true,beq_iff_eq] at aS;obtain⟨rfl,aS⟩:=aS
  exact⟨by simpa using aS,h⟩
 | free i rest aa=>
  intro n listed a w inv aS aG h;obtain⟨o,v,ak,a4,h⟩:=h;simp only[mB,Bool.and_eq_true,decide_eq_true_eq] at aS;obtain⟨hn,⟨aA,hc⟩,aS⟩:=aS;obtain⟨m,rfl⟩:∃m,n=m+1:=⟨n - 1,by omega⟩
  have aY:i∈Region.ready md ops listed:=by simpa using hc
  exact hj (U:=fun _ _=>True) (fun _ _ _ _ _=>trivial) l (fun _=>trivial) ak q (fun c a w=>hQ c a _ _ w) (.inl fun _ _=>trivial) m listed a w inv (Region.free_spec ak aA) aY a4
   (aa m _ _ _ (inv.set aY) aS aG h)
 | held i rest aa=>
  intro n listed a w inv aS aG h;obtain⟨o,v,ak,a4,h⟩:=h;simp only[mB,Bool.and_eq_true,decide_eq_true_eq] at aS;obtain⟨hn,⟨aA,hc⟩,aS⟩:=aS;obtain⟨m,rfl⟩:∃m,n=m+1:=⟨n - 1,by omega⟩
  have aY:i∈Region.ready md ops listed:=by simpa using hc
  refine hj (U:=R) t l l ak q (fun c a w=>hQ c a _ _ w) (.inr fun j a1=>aG i (by simp[PT.nw]) j (by simpa using a1)) m listed a w inv (Region.free_spec ak aA) aY a4
   (aa m _ _ _ (inv.set aY) aS (fun i ak=>aG i (by simp[PT.nw,ak])) h)
 | pick is f aa=>
  intro n listed a w inv aS aG h;simp only[mB,Bool.and_eq_true,decide_eq_true_eq,beq_iff_eq] at aS;obtain⟨hn,⟨he,aY⟩,aS⟩:=aS;obtain⟨m,rfl⟩:∃m,n=m+1:=⟨n - 1,by omega⟩
  by_cases aZ:is=[]
  ·subst aZ;simp at he
  ·refine⟨fun h0=>absurd (by rw[←aY];exact h0) aZ,fun j a1=>?_⟩;have e:=a1;rw[aY] at a1;obtain⟨o,ak,h⟩:=h j a1;have g:=h (fun r ab=>((fun j=>!tails.contains j) j=true→R w ab)∧jL P md ops Q R (fun j=>!tails.contains j) m (listed.setIfInBounds j true) r ab) fun r ab cy hp=>
    ⟨fun a5=>cy (by simpa using a5),aa j m _ _ _ (inv.set e) (by simpa using List.all_eq_true.1 aS j a1) (fun i ak=>aG i (by simp only[PT.nw,List.mem_flatMap];exact⟨j,a1,ak⟩)) hp⟩
   unfold Go.wpOp;simp only[ak];split
   ·rename_i hw;rw[if_pos hw] at g;exact .inl g
   ·rename_i hw;rw[if_neg hw] at g;exact g
theorem pL(R:World→World→Prop)(tails:List Nat)(p:PT){id:Nat}{a:Act}{w:World}(hm:P.follows .mixedOrders=true)(aS:vh .any ops tails p=true)
  (l:∀a,R a a) (t:∀a b c,R a b→R b c→R a c) (hQ:∀c a d v w,Q (.panic c) (a.put d v) w→Q (.panic c) a w)
  (h:di P ops Q R tails p a w.drew):(Code.region id ops true).wp P Q a w:=by
 simp only[vh,Bool.and_eq_true] at aS;obtain⟨⟨hs,I⟩,hp⟩:=aS;refine wp_region_any hm (lO (R:=R) (T:=fun j=>!tails.contains j) _ _ _ _ ?_);refine vl tails t l (Region.noSelect_spec hs) hQ p ops.size _ a _ (fun j g _ a1=>?_) hp (fun i ak j a1=>?_) h
 ·rw[getD_replicate_false] at a1;cases a1
 ·have ac:=List.all_eq_true.1 I i ak;exact⟨_,List.all_eq_true.1 ac j a1⟩
variable {tails:List Nat}
theorem cd{i:Nat}{o:Oper}{v:Value}{rest:PT}{a:Act}{w:World}(ak:ops[i]?=some o)(hw:Region.wanted o (yielded ops a.tmps)=true)
  (bC:∀V,R w V→(execOp a.eval o).run P V=.ok (.value v) V) (h:di P ops Q R tails rest (a.put o.dst v) w):di P ops Q R tails (.held i rest) a w:=
 ⟨o,v,ak,.inl ⟨hw,bC⟩,h⟩
theorem xH{i:Nat}{o:Oper}{v:Value}{rest:PT}{a:Act}{w:World}(ak:ops[i]?=some o)(hw:Region.wanted o (yielded ops a.tmps)=true)
  (bC:∀V,(execOp a.eval o).run P V=.ok (.value v) V) (h:di P ops Q R tails rest (a.put o.dst v) w):di P ops Q R tails (.free i rest) a w:=
 ⟨o,v,ak,.inl ⟨hw,fun V _=>bC V⟩,h⟩
def nK(P:Program)(ops:Array Oper)(Q:Exit→Act→World→Prop)(R:World→World→Prop)(tails:List Nat)(i:Nat)(p:PT)(a:Act)(w:World):Prop:=
 ∃o,ops[i]?=some o∧∀K:Act→World→Prop,(∀r ab,(tails.contains i=false→R w ab)→di P ops Q R tails p r ab→K r ab)→
   (if Region.wanted o (yielded ops a.tmps)=true then o.wp P a w K Q else K (a.put o.dst undef) w)
theorem aG{i:Nat}{o:Oper}{p:PT}{a:Act}{w:World}(ak:ops[i]?=some o)
  (h:∀K:Act→World→Prop,(∀r ab,R w ab→di P ops Q R tails p r ab→K r ab)→if Region.wanted o (yielded ops a.tmps)=true then o.wp P a w K Q else K (a.put o.dst undef) w)
  (a5:tails.contains i=false):nK P ops Q R tails i p a w:=⟨o,ak,fun K hK=>h K fun r ab cy=>hK r ab fun _=>cy⟩
theorem bA{i:Nat}{o:Oper}{p:PT}{a:Act}{w:World}(ak:ops[i]?=some o)
  (h:∀K:Act→World→Prop,(∀r ab,di P ops Q R tails p r ab→K r ab)→if Region.wanted o (yielded ops a.tmps)=true then o.wp P a w K Q else K (a.put o.dst undef) w)
  (a5:tails.contains i=true):nK P ops Q R tails i p a w:=⟨o,ak,fun K hK=>h K fun r ab hp=>hK r ab (fun h=>by rw[a5] at h;cases h) hp⟩
theorem aq{i:Nat}{f:Nat→PT}{a:Act}{w:World}(h:nK P ops Q R tails i (f i) a w):di P ops Q R tails (.pick [i] f) a w:=fun j a1=>by
 have:j=i:=by simpa using a1
 subst this;exact h
theorem a5{i j:Nat}{f:Nat→PT}{a:Act}{w:World}(h:nK P ops Q R tails i (f i) a w)(J:nK P ops Q R tails j (f j) a w):di P ops Q R tails (.pick [i,j] f) a w:=fun k ap=>by
 simp only[List.mem_cons,List.not_mem_nil,or_false] at ap;rcases ap with rfl|rfl
 ·exact h
 ·exact J
theorem cr{a:Act}{w:World}(h:Q .normal a w):di P ops Q R tails .stop a w:=h
theorem kU{rest:PT}{aa:Nat→Act}{C:Nat→World→Prop}{G:Prop}(h:(∀g V,C g V→di P ops Q R tails rest (aa g) V)→G)(key:∀g V,C g V→di P ops Q R tails rest (aa g) V):G:=h key
end
theorem ae{p:Prop}(h:p):IS p:=h
theorem Bj{a b:Int}{k:IntKind}(h:a=b):Value.int k a=Value.int k b:=by rw[h]
theorem ret_int{a b:Int}{k:IntKind}(h:a=b):Ending.returned (.int k a)=.returned (.int k b):=by rw[h]
theorem ret_bool{a b:Bool}(h:a=b):Ending.returned (.bool a)=.returned (.bool b):=by rw[h]
theorem a0{α:Type}{l:List α}{k:Nat}{x:α}(h:l[k]?=some x):l.take (k+1)=l.take k++[x]:=by
 rw[List.take_add_one,h];rfl
theorem CU(x y:Int):(if y > x then y else x)=max x y:=by
 by_cases h:x≤y<;>simp[Int.max_def,h]<;>omega
theorem CV(x y:Int):(if y<x then y else x)=min x y:=by
 by_cases h:x≤y<;>simp[Int.min_def,h]<;>omega
theorem gN(P:Program)(w:World)(a:Array TypeId)(t:TypeId)(k u:IntKind)(x y:Int):(Builtin.max_ a t #[.int k x,.int u y]).run P w=.ok (.int k (max x y)) w:=by
 rw[run_max_int2,CU]
theorem gO(P:Program)(w:World)(a:Array TypeId)(t:TypeId)(k u:IntKind)(x y:Int):(Builtin.min_ a t #[.int k x,.int u y]).run P w=.ok (.int k (min x y)) w:=by
 rw[run_min_int2,CV]
theorem dm{B:Nat}{a w:World}(h:Below B a w)(n:Nat):Below B a (w.drewN n):=⟨h.os,h.tape,h.output,h.size,h.block⟩
def cJ{α:Type}(E:World→Nat→α→List Value→Prop)(sz:Nat)(w:World)(B:Nat)(A:IP)(n:Nat)(l:List α):Prop:=
 l.length=n∧(0<n→∃b o,A=some ⟨b,o,none⟩∧b<B∧∀k x,l[k]?=some x→∃cs:List Value,E w B x cs∧cs.length=sz∧∀j v,cs[j]?=some v→w.cell? ⟨b,o+k*sz+j,none⟩=some v)
section
variable {α:Type} {E:World→Nat→α→List Value→Prop} {sz:Nat} {w ab:World} {B q n:Nat} {A:IP} {l:List α}
theorem cJ.bH(A:IP):cJ E sz w B A 0 ([]:List α):=⟨rfl,fun h=>absurd h (by omega)⟩
theorem cJ.al(h:cJ E sz w B A n l)(O:Below B w ab)(aw:∀x cs,E w B x cs→E ab B x cs):cJ E sz ab B A n l:=by
 refine⟨h.1,fun hn=>?_⟩;obtain⟨b,o,bj,ao,hc⟩:=h.2 hn;refine⟨b,o,bj,ao,fun k x hx=>?_⟩;obtain⟨cs,he,hl,a1⟩:=hc k x hx;exact⟨cs,aw _ _ he,hl,fun j v bC=>(O.cell (p:=⟨b,_,none⟩) ao).trans (a1 j v bC)⟩
theorem cJ.more(h:cJ E sz w B A n l)(aS:B≤q)(aw:∀x cs,E w B x cs→E w q x cs):cJ E sz w q A n l:=by
 refine⟨h.1,fun hn=>?_⟩;obtain⟨b,o,bj,ao,hc⟩:=h.2 hn;refine⟨b,o,bj,by omega,fun k x hx=>?_⟩;obtain⟨cs,he,hl,a1⟩:=hc k x hx;exact⟨cs,aw _ _ he,hl,a1⟩
end
def EF{α:Type}(f:α→List Value):World→Nat→α→List Value→Prop:=fun _ _ x cs=>cs=f x
section
variable {α:Type} {f:α→List Value} {sz:Nat} {w ab:World} {B q n:Nat} {A:IP} {l:List α}
theorem cJ.eQ(h:cJ (EF f) sz w B A n l)(O:Below B w ab):cJ (EF f) sz ab B A n l:=h.al O fun _ _ h=>h
theorem cJ.F4(h:cJ (EF f) sz w B A n l)(aS:B≤q):cJ (EF f) sz w q A n l:=h.more aS fun _ _ h=>h
theorem cJ.dh(h:cJ (EF f) sz w B A n l)(O:Below B w ab)(aS:B≤q):cJ (EF f) sz ab q A n l:=(h.eQ O).F4 aS
theorem cJ.FN(h:cJ (EF f) sz w B A n l){k:Nat}(ap:k<n) :
  ∃b o x,A=some ⟨b,o,none⟩∧b<B∧l[k]?=some x∧(f x).length=sz∧∀j v,(f x)[j]?=some v→w.cell? ⟨b,o+k*sz+j,none⟩=some v:=by
 obtain⟨b,o,bj,O,hc⟩:=h.2 (by omega);have hm:l[k]?=some (l[k]'(by have:=h.1;omega)):=List.getElem?_eq_getElem _;obtain⟨cs,he,hl,a1⟩:=hc k _ hm;rw[EF] at he;subst he;exact⟨b,o,_,bj,O,hm,hl,a1⟩
theorem cJ.some_(h:cJ (EF f) sz w B A n l)(ap:0<n):∃b o,A=some ⟨b,o,none⟩∧b<B:=by
 obtain⟨b,o,bj,O,_⟩:=h.2 ap;exact⟨b,o,bj,O⟩
end
theorem fk{α:Type}(f:α→List Value)(sz:Nat):∀(l:List α),(∀x∈l,(f x).length=sz)→∀k x,l[k]?=some x→∀j,j<sz→(l.flatMap f)[k*sz+j]?=(f x)[j]?
 | [],_,k,x,h,_,_=>by simp at h
 | a::l,hs,0,x,h,j,a1=>by
  have I:=hs a (by simp);simp only[List.getElem?_cons_zero,Option.some.injEq] at h;subst h;simp only[List.flatMap_cons,Nat.zero_mul,Nat.zero_add]
  rw[List.getElem?_append_left (by omega)]
 | a::l,hs,k+1,x,h,j,a1=>by
  have I:=hs a (by simp);simp only[List.getElem?_cons_succ] at h;have aa:=fk f sz l (fun y a4=>hs y (by simp[a4])) k x h j a1;simp only[List.flatMap_cons];rw[List.getElem?_append_right (by rw[I,Nat.succ_mul];omega),I,←aa];congr 1
  rw[Nat.succ_mul];omega
theorem fU{α:Type}(f:α→List Value)(sz:Nat)(l:List α)(hs:∀x∈l,(f x).length=sz):(l.flatMap f).length=l.length*sz:=by
 induction l with
 | nil=>simp
 | cons a l aa=>
  rw[List.flatMap_cons,List.length_append,hs a (by simp),aa (fun x hx=>hs x (by simp[hx])),List.length_cons,Nat.succ_mul];omega
theorem bI{w:World}{base:Nat}{e:TypeId}{sz:Nat}{v:Value}{n:Nat}{xs:List Value}(h:w.ownsRow base e sz v n xs) :
  ∃A c,v=.slice A n c∧n≤c∧c≤maxLen∧(A=none→n=0∧c=0)∧∀a,A=some a→∃g,a=⟨g,0,none⟩∧base≤g∧g<w.heap.size:=by
 rcases h.2 with⟨rfl,rfl⟩|⟨g,cap,cur,rfl,O,aM,hn,hc,_⟩
 ·exact⟨none,0,rfl,Nat.le_refl _,by simp,fun _=>⟨rfl,rfl⟩,fun _ h=>nomatch h⟩
 ·exact⟨_,_,rfl,hn,hc,(fun h=>nomatch h),fun a h=>(by injection h with h;exact⟨g,h.symm,O,(Array.getElem?_eq_some_iff.1 aM).1⟩)⟩
theorem jb{α:Type}{f:α→List Value}{w:World}{base:Nat}{e:TypeId}{sz:Nat}{A:IP}{n c:Nat}{l:List α}
  (h:w.ownsRow base e sz (.slice A n c) n (l.flatMap f)) (hs:∀x∈l,(f x).length=sz) (hl:l.length=n):cJ (EF f) sz w w.heap.size A n l:=by
 refine⟨hl,fun hn=>?_⟩;rcases h.2 with⟨bC,h0⟩|⟨g,cap,cur,bC,_,aM,aG,_,T,a⟩
 ·omega
 ·injection bC with bj _ _;subst bj;refine⟨g,0,rfl,(Array.getElem?_eq_some_iff.1 aM).1,fun k x hx=>⟨f x,rfl,hs x (List.mem_of_getElem? hx),fun j v a1=>?_⟩⟩;have r:j<sz:=by
   have:=hs x (List.mem_of_getElem? hx);have:=(List.getElem?_eq_some_iff.1 a1).1;omega
  have Q:k<l.length:=(List.getElem?_eq_some_iff.1 hx).1;have b7:=fk f sz l hs k x hx j r;rw[a1,←a,List.getElem?_take] at b7;split at b7
  ·rw[cell_of_row w g _ cur e (0,0) aM,Nat.zero_add];simpa using b7
  ·cases b7
theorem xq{w ab:World}{base B:Nat}{e:TypeId}{sz:Nat}{v:Value}{n:Nat}{xs:List Value}(h:w.ownsRow base e sz v n xs)(O:Below B w ab)(aS:∀g,v.ownBlock=some g→g<B):ab.ownsRow base e sz v n xs:=by
 refine⟨h.1,?_⟩;rcases h.2 with J|⟨g,cap,cur,rfl,j,aM,rest⟩
 ·exact .inl J
 ·exact .inr ⟨g,cap,cur,rfl,j,(O.block g (aS g rfl)).trans aM,rest⟩
theorem b5{w ab:World}{base:Nat}{e:TypeId}{sz:Nat}{v:Value}{n:Nat}{xs:List Value}(h:w.ownsRow base e sz v n xs)(O:Below w.heap.size w ab):ab.ownsRow base e sz v n xs:=
 xq h O fun g aM=>(h.lt g aM).2
theorem kQ{w:World}{base:Nat}{e:TypeId}{sz:Nat}{A:IP}{n c:Nat}{xs:List Value}(h:w.ownsRow base e sz (.slice A n c) n xs)(hn:0<n) :
  ∃g,A=some ⟨g,0,none⟩∧base≤g∧g<w.heap.size∧(∀j u,xs[j]?=some u→w.cell? ⟨g,j,none⟩=some u)∧(∀j,w.frozen? ⟨g,j,none⟩=false)∧
   ∀j u,j<n*sz→(w.setCell ⟨g,j,none⟩ u).ownsRow base e sz (.slice A n c) n (xs.set j u):=by
 rcases h.2 with⟨bC,h0⟩|⟨g,cap,cur,bC,O,aM,aG,v,T,a⟩
 ·omega
 ·injection bC with bj _ hc;subst bj hc;refine⟨g,rfl,O,(Array.getElem?_eq_some_iff.1 aM).1,fun j u hu=>?_,fun j=>?_,fun j u a1=>⟨by rw[List.length_set];exact h.1,.inr ⟨g,c,cur.setIfInBounds j u,rfl,O,?_,aG,v,by simpa using T,?_⟩⟩⟩
  ·rw[←a,List.getElem?_take] at hu;split at hu
   ·rw[cell_of_row w g j cur e (0,0) aM];simpa using hu
   ·cases hu
  ·simp[World.frozen?,aM]
  ·simp[World.setCell,Array.getElem?_modify,aM]
  ·rw[←a,Array.toList_setIfInBounds,List.take_set]
theorem jw{α:Type}(f:α→List Value)(sz:Nat):∀(l:List α),(∀x∈l,(f x).length=sz)→∀k x,l[k]?=some x→∀j u y,j<sz→(f x).set j u=f y→(l.flatMap f).set (k*sz+j) u=(l.set k y).flatMap f
 | [],_,k,x,h,_,_,_,_,_=>by simp at h
 | a::l,hs,0,x,h,j,u,y,a1,a4=>by
  have I:=hs a (by simp);simp only[List.getElem?_cons_zero,Option.some.injEq] at h;subst h;simp only[List.flatMap_cons,Nat.zero_mul,Nat.zero_add,List.set_cons_zero]
  rw[List.set_append_left _ _ (by omega),a4]
 | a::l,hs,k+1,x,h,j,u,y,a1,a4=>by
  have I:=hs a (by simp);simp only[List.getElem?_cons_succ] at h;have aa:=jw f sz l (fun y a4=>hs y (by simp[a4])) k x h j u y a1 a4;simp only[List.flatMap_cons,List.set_cons_succ];rw[List.set_append_right _ _ (by rw[I,Nat.succ_mul];omega),I,←aa];congr 2
  rw[Nat.succ_mul];omega
theorem qE{P:Program}(w:World)(t e:TypeId)(a:IP)(n c a0 L:Nat)(h:P.underlying t=some (.slice e)) :
  (binOp .eql t (.slice a n c) (.slice none a0 L)).run P w=.ok (.bool a.isNone) w:=by
 have key:∀d:Nat,(Op.equalIn (d+1) t (.slice a n c) (.slice none a0 L)).run P w=.ok a.isNone w:=fun d=>by
  rcases a with _|a<;>simp[Op.equalIn,run_underlying h]
 simp only[binOp];simp[Op.equal,Op.maxDepth,key 9999]
def Src(w:World)(sz:Nat)(A:IP)(m:Nat)(news:List Value):Prop:=
 news.length=m*sz∧(∀u∈news,u.oneCell'=true)∧(0<m→∃b o,A=some ⟨b,o,none⟩∧∀j u,news[j]?=some u→w.cell? ⟨b,o+j,none⟩=some u)
theorem Src.one{w:World}{b:Nat}{u:Value}(h:w.cell? ⟨b,0,none⟩=some u)(ac:u.oneCell'=true):Src w 1 (some ⟨b,0,none⟩) 1 [u]:=
 ⟨rfl,by simpa using ac,fun _=>⟨b,0,rfl,fun j v a1=>by
  cases j with
  | zero=>simp at a1;subst a1;exact h
  | succ j=>simp at a1⟩⟩
theorem Src.block{w:World}{g:Nat}{e:TypeId}{xs:Array Value}{sz:Nat}(aM:w.heap[g]?=some (.cells xs e (0,0)))(m:Nat)(hm:xs.size=m*sz)(ac:∀u∈xs.toList,u.oneCell'=true) :
  Src w sz (some ⟨g,0,none⟩) m xs.toList:=
 ⟨by simpa using hm,ac,fun _=>⟨g,0,rfl,fun j u a1=>by
  rw[Nat.zero_add,cell_of_row w g j xs e (0,0) aM];simpa using a1⟩⟩
theorem Src.wu{α:Type}{f:α→List Value}{sz:Nat}{w:World}{B n:Nat}{A:IP}{l:List α}(h:cJ (EF f) sz w B A n l)(hs:∀x∈l,(f x).length=sz)(ac:∀x∈l,∀u∈f x,u.oneCell'=true)(bi:0<sz) :
  Src w sz A n (l.flatMap f):=by
 refine⟨by rw[fU f sz l hs,h.1],fun u hu=>?_,fun hn=>?_⟩
 ·obtain⟨x,hx,hu⟩:=List.mem_flatMap.1 hu;exact ac x hx u hu
 ·obtain⟨b,o,bj,_,hc⟩:=h.2 hn;refine⟨b,o,bj,fun j u a1=>?_⟩;have bf:=(List.getElem?_eq_some_iff.1 a1).1;rw[fU f sz l hs] at bf;have Q:j / sz<l.length:=by rw[Nat.div_lt_iff_lt_mul bi];exact bf
  have hx:l[j / sz]?=some (l[j / sz]'Q):=List.getElem?_eq_getElem Q;have d:=Nat.mod_lt j bi;have a:j / sz*sz+j % sz=j:=Nat.div_add_mod' j sz;have b7:=fk f sz l hs _ _ hx (j % sz) d;rw[a,a1] at b7;obtain⟨cs,he,_,c⟩:=hc _ _ hx;rw[EF] at he;subst he;have:=c _ _ b7.symm
  rwa [Nat.add_assoc,a] at this
def b2(P:Program)(t e:TypeId)(z:Value)(size bytes:Nat):Prop:=
 ∃i,P.underlying t=some (.slice e)∧P.info? e=some i∧i.zero=some z∧i.size=size∧i.bytes=bytes∧z.cells.size=size∧0<size
theorem b2.mk'{P:Program}{t e:TypeId}{z:Value}{size bytes:Nat}(ht:P.underlying t=some (.slice e))(ak:(P.info? e).map (fun i=>(i.zero,i.size,i.bytes))=some (some z,size,bytes))(bi:z.cells.size=size)(h0:0<size):b2 P t e z size bytes:=by
 obtain⟨i,ac,J,aR,bv⟩:=info_parts ak;exact⟨i,ht,ac,J,aR,bv,bi,h0⟩
section
variable {P:Program} (w:World)
theorem sW(base:Nat)(t ty e:TypeId)(i:TypeInfo)(size:Nat)(ht:P.underlying t=some (.slice e))(ak:P.info? e=some i)
  (v:Value) (n:Nat) (xs:List Value) (I:w.ownsRow base e size v n xs) (c:Nat):(Builtin.append_ #[t,t] ty #[v,.slice none 0 c]).run P w=.ok v w:=by
 rcases I.2 with⟨rfl,rfl⟩|⟨g,cap,cur,rfl,_,_,aG,_⟩
 ·simp[Builtin.append_,run_underlying ht,sizeOf,typeInfo,ak,Builtin.lenOf,Builtin.firstCells]
 ·simp[Builtin.append_,run_underlying ht,sizeOf,typeInfo,ak,Builtin.lenOf,Builtin.firstCells,aG,storeCells]
theorem Dk{t e:TypeId}{z:Value}{size bytes:Nat}(bj:b2 P t e z size bytes)(base:Nat)(ty:TypeId)(v:Value)(n:Nat)(xs:List Value)(I:w.ownsRow base e size v n xs)
  (A:IP) (m c:Nat) (news:List Value) (hs:Src w size A m news) (r:(n+m)*bytes≤140737488355328) (y:n+m≤140737488355328) (C:base≤w.heap.size) (d:A=none→m=0) :
  ∃H ab,(Builtin.append_ #[t,t] ty #[v,.slice A m c]).run P w=.ok H ab∧ab.ownsRow base e size H (n+m) (xs++news)∧w.grownBy ab v.ownBlock∧
   (H.ownBlock=v.ownBlock∨H.ownBlock=some w.heap.size):=by
 obtain⟨i,ht,ak,bi,g,U,cF,bT⟩:=bj;rcases A with _|a
 ·have hm:=d rfl;subst hm;have hn:news=[]:=List.eq_nil_of_length_eq_zero (by simpa using hs.1);subst hn;exact⟨v,w,sW w base t ty e i size ht ak v n xs I c,by simpa using I,World.grownBy.refl w _,.inl rfl⟩
 ·have bo:∀j u,news[j]?=some u→w.cell? (a.add j)=some u:=by
   intro j u hu;rcases Nat.eq_zero_or_pos m with h0|h0
   ·subst h0;have hn:news=[]:=List.eq_nil_of_length_eq_zero (by simpa using hs.1);subst hn;simp at hu
   ·obtain⟨b,o,h,hc⟩:=hs.2.2 h0;injection h with h;subst h;have:=hc j u hu;by_cases a1:j=0
    ·subst a1;simpa[Addr.add] using this
    ·simpa[Addr.add,a1] using this
  obtain⟨H,ab,L,J,aR,_,ct⟩:=run_append_own_at (P:=P) w base t ty e i z size bytes ht ak bi g U cF bT v n xs I a m c news hs.1 bo hs.2.1 (by simp only[maxLen];omega) r C;exact⟨H,ab,L,J,aR,ct⟩
theorem kr{o:Oper}{a:Act}{K:Act→World→Prop}{Q:Exit→Act→World→Prop}{t e:TypeId}{z:Value}{size bytes:Nat}(bj:b2 P t e z size bytes)(s x:Operand)
  (bu:o.op=.call {callee:=.builtin .append,args:=#[s,x],argTypes:=#[t,t]})
  (base:Nat) (v:Value) (n:Nat) (xs:List Value) (hs:a.eval s=v) (I:w.ownsRow base e size v n xs)
  (A:IP) (m c:Nat) (news:List Value) (hx:a.eval x=.slice A m c) (aY:Src w size A m news)
  (r:(n+m)*bytes≤140737488355328) (y:n+m≤140737488355328) (C:base≤w.heap.size) (d:A=none→m=0)
  (h:∀H ab,ab.ownsRow base e size H (n+m) (xs++news)→w.grownBy ab v.ownBlock→(H.ownBlock=v.ownBlock∨H.ownBlock=some w.heap.size)→K (a.put o.dst H) ab):o.wp P a w K Q:=by
 obtain⟨H,ab,L,J,aR,bv⟩:=Dk (P:=P) w bj base o.type v n xs I A m c news aY r y C d;unfold Oper.wp execOp;simp only[bu,resolve,invoke,builtin,Sem.run_bind,Sem.run_pure,Result.andThen_ok,List.map_toArray,List.map_cons,List.map_nil,hs,hx,L];exact h H ab J aR bv
theorem pI{ops:Array Oper}{rest:List Oper}{o:Oper}{a:Act}{Q:Exit→Act→World→Prop}{t e:TypeId}{z:Value}{size bytes:Nat}(bj:b2 P t e z size bytes)(i:o.guard=none)(s x:Operand)
  (bu:o.op=.call {callee:=.builtin .append,args:=#[s,x],argTypes:=#[t,t]})
  (base:Nat) (v:Value) (n:Nat) (xs:List Value) (hs:a.eval s=v) (I:w.ownsRow base e size v n xs)
  (A:IP) (m c:Nat) (news:List Value) (hx:a.eval x=.slice A m c) (aY:Src w size A m news)
  (r:(n+m)*bytes≤140737488355328) (y:n+m≤140737488355328) (C:base≤w.heap.size) (d:A=none→m=0)
  (h:∀H ab,ab.ownsRow base e size H (n+m) (xs++news)→w.grownBy ab v.ownBlock→(H.ownBlock=v.ownBlock∨H.ownBlock=some w.heap.size)→wpList P ops Q rest (a.put o.dst H) ab):wpList P ops Q (o::rest) a w:=
 wpList_plain i fun _ hK=>kr w bj s x bu base v n xs hs I A m c news hx aY r y C d fun H ab J aR bv=>hK _ _ (h H ab J aR bv)
end
theorem cI{P:Program}(S:World){ops:Array Oper}{rest:List Oper}{o:Oper}{a:Act}{Q:Exit→Act→World→Prop}{t e:TypeId}{z:Value}{size bytes:Nat}(bj:b2 P t e z size bytes)(i:o.guard=none)(s x:Operand)
  (bu:o.op=.call {callee:=.builtin .append,args:=#[s,x],argTypes:=#[t,t]})
  (base:Nat) (v:Value) (n:Nat) (xs:List Value) (cs:Array Value) (hs:a.eval s=v) (I:S.ownsRow base e size v n xs)
  (hx:a.eval x=.slice (some ⟨S.heap.size,0,none⟩) 1 1) (T:cs.size=size) (ac:∀u∈cs.toList,u.oneCell'=true)
  (r:(n+1)*bytes≤140737488355328) (y:n+1≤140737488355328) (C:base≤S.heap.size)
  (h:∀H ab,ab.ownsRow base e size H (n+1) (xs++cs.toList)→S.grownBy ab v.ownBlock→(H.ownBlock=v.ownBlock∨H.ownBlock=some (S.heap.size+1))→wpList P ops Q rest (a.put o.dst H) ab):wpList P ops Q (o::rest) a (S.alloc (.cells cs e)):=by
 refine pI _ bj i s x bu base v n xs hs (I.alloc _) _ 1 1 cs.toList hx (Src.block (heap_alloc_new S _) 1 (by omega) ac) r y (by simp;omega) (fun h=>nomatch h) fun H ab J aR bv=>?_;refine h H ab J ⟨aR.os,aR.tape,aR.output,by have:=aR.size;simp at this;omega,fun k ap aZ=>(aR.block k (by simp;omega) aZ).trans (Below.heap_alloc S _ k ap)⟩ ?_;simpa using bv
theorem Src.on{w ab:World}{sz m:Nat}{A:IP}{news:List Value}(h:Src w sz A m news)(O:Below w.heap.size w ab):Src ab sz A m news:=by
 refine⟨h.1,h.2.1,fun hm=>?_⟩;obtain⟨b,o,bj,hc⟩:=h.2.2 hm;refine⟨b,o,bj,fun j u a1=>?_⟩;have c:=hc j u a1;exact(O.cell (p:=⟨b,o+j,none⟩) (World.block_lt_of_cell? w _ c)).trans c
theorem nH{P:Program}(S:World){ops:Array Oper}{rest:List Oper}{o:Oper}{a:Act}{Q:Exit→Act→World→Prop}{t e:TypeId}{z:Value}{size bytes:Nat}(bj:b2 P t e z size bytes)(i:o.guard=none)(s x:Operand)
  (bu:o.op=.call {callee:=.builtin .append,args:=#[s,x],argTypes:=#[t,t]})
  (hs:a.eval s=.slice (some ⟨S.heap.size,0,none⟩) 0 0) (A:IP) (m c:Nat) (news:List Value) (hx:a.eval x=.slice A m c) (aY:Src S size A m news)
  (r:m*bytes≤140737488355328) (y:m≤140737488355328) (d:A=none→m=0)
  (h:∀aE L ab,ab.ownsRow S.heap.size e size (.slice aE m L) m news→Below S.heap.size S ab→wpList P ops Q rest (a.put o.dst (.slice aE m L)) ab):wpList P ops Q (o::rest) a (S.alloc (.cells #[] e)):=by
 have I:(S.alloc (.cells #[] e)).ownsRow S.heap.size e size (.slice (some ⟨S.heap.size,0,none⟩) 0 0) 0 []:=World.ownsRow_made S #[] 0 (Nat.le_refl _) (Nat.zero_le _) (by simp);refine pI _ bj i s x bu S.heap.size _ 0 [] hs I A m c news hx (aY.on ((Below.refl _ _).alloc (Nat.le_refl _) _)) (by rw[Nat.zero_add];exact r) (by omega) (by simp) d fun H ab J aR bv=>?_;simp only[Nat.zero_add,List.nil_append] at J;have O:Below S.heap.size S ab:=((Below.refl _ _).alloc (Nat.le_refl _) _).grown aR (by simp) (by simp[Value.ownBlock]);obtain⟨aE,L,rfl,_⟩:=bI J;exact h aE L ab J O
theorem eL{B:Nat}{a w ab:World}{base:Nat}{e:TypeId}{sz:Nat}{v:Value}{n:Nat}{xs:List Value}(h:Below B a w)(I:w.ownsRow base e sz v n xs)(aM:w.grownBy ab v.ownBlock)(aS:B≤base)(bq:B≤w.heap.size):Below B a ab:=
 h.grown aM bq fun k ap=>Nat.le_trans aS (I.lt k ap).1
section
variable {P:Program} {t e:TypeId} {z:Value} {size bytes:Nat}
theorem run_mk(bj:b2 P t e z size bytes)(kl kc:IntKind)(n:Nat)(O:bytes*n≤281474976710656)(y:n≤281474976710656)(w:World) :
  (Instr.makeSlice t (.int kl (n:Int)) (.int kc (n:Int))).run P w=.ok (.slice (some ⟨w.heap.size,0,none⟩) n n) (w.alloc (.cells (madeCells z.cells (n*size)) e)):=by
 obtain⟨i,ht,ak,bi,g,U,cF,bT⟩:=bj;have a:(i.bytes:Int)*(n:Int)≤281474976710656:=by
  have h:((i.bytes*n:Nat):Int)≤281474976710656:=by rw[U];omega
  rwa [Int.natCast_mul] at h
 have aY:=run_make (P:=P) w t e i z ht ak bi kl kc n n (by omega) (by omega) a (by omega);simp only[Int.toNat_natCast] at aY;rw[aY,g]
theorem qv{α:Type}{f:α→List Value}{x:α}{zc:Array Value}{sz:Nat}(bi:zc.toList=f x)(hs:(f x).length=sz)(h0:0<sz)(n:Nat):(madeCells zc (n*sz)).toList=(List.replicate n x).flatMap f:=by
 have cF:zc.size=sz:=by rw[←Array.length_toList,bi,hs]
 apply List.ext_getElem?
 intro j;by_cases a1:j<n*sz
 ·have ap:j / sz<n:=by rw[Nat.div_lt_iff_lt_mul h0];exact a1
  have hm:=Nat.mod_lt j h0;have hx:(List.replicate n x)[j / sz]?=some x:=by rw[List.getElem?_replicate,if_pos ap]
  have:=fk f sz (List.replicate n x) (fun y a4=>by rw[(List.mem_replicate.1 a4).2];exact hs) _ _ hx _ hm;rw[Nat.div_add_mod'] at this;rw[this,←bi];have a8:j % zc.size<zc.size:=by rw[cF];exact hm
  simp only[madeCells,Array.getElem?_toList,Array.getElem?_map,Array.getElem?_range,a1,if_pos,Option.map_some];rw[←cF,getElem!_pos zc _ a8,Array.getElem?_eq_getElem a8]
 ·rw[List.getElem?_eq_none (by rw[Array.length_toList,size_madeCells];omega),List.getElem?_eq_none (by rw[fU f sz _ (fun y a4=>by rw[(List.mem_replicate.1 a4).2];exact hs),List.length_replicate];omega)]
theorem E6{α:Type}{f:α→List Value}{x:α}{zc:Array Value}{sz:Nat}(bi:zc.toList=f x)(hs:(f x).length=sz)(h0:0<sz)(n:Nat)(hn:n≤281474976710656){w:World}{base:Nat}(O:base≤w.heap.size) :
  (w.alloc (.cells (madeCells zc (n*sz)) e)).ownsRow base e sz (.slice (some ⟨w.heap.size,0,none⟩) n n) n ((List.replicate n x).flatMap f):=by
 rw[←qv bi hs h0 n];exact World.ownsRow_lit w _ n O (by unfold maxLen;omega) (size_madeCells _ _)
end
def cD(x:Int):List Value:=[.int .i64 x]
def nN(x:ByteArray):List Value:=[.string x]
theorem cJ.int{w:World}{B n:Nat}{A:IP}{l:List Int}(h:cJ (EF cD) 1 w B A n l){k:Nat}(ap:k<n) :
  ∃b o x,A=some ⟨b,o,none⟩∧b<B∧l[k]?=some x∧w.cell? ⟨b,o+k,none⟩=some (.int .i64 x):=by
 obtain⟨b,o,x,bj,O,hx,_,hc⟩:=h.FN ap;have:=hc 0 _ rfl;simp only[Nat.mul_one,Nat.add_zero] at this;exact⟨b,o,x,bj,O,hx,this⟩
theorem cJ.str{w:World}{B n:Nat}{A:IP}{l:IQ}(h:cJ (EF nN) 1 w B A n l){k:Nat}(ap:k<n) :
  ∃b o x,A=some ⟨b,o,none⟩∧b<B∧l[k]?=some x∧w.cell? ⟨b,o+k,none⟩=some (.string x):=by
 obtain⟨b,o,x,bj,O,hx,_,hc⟩:=h.FN ap;have:=hc 0 _ rfl;simp only[Nat.mul_one,Nat.add_zero] at this;exact⟨b,o,x,bj,O,hx,this⟩
theorem sq(l:List Int):l.flatMap cD=l.map (Value.int .i64):=by
 induction l with
 | nil=>rfl
 | cons a l aa=>rw[List.flatMap_cons,aa];rfl
theorem iD(l:List Int)(x:Int):(l++[x]).flatMap cD=l.flatMap cD++[.int .i64 x]:=by
 rw[List.flatMap_append];rfl
theorem mg(k:IntKind)(x:Int):∀u∈(#[Value.int k x]:Array Value).toList,u.oneCell'=true:=by
 intro u hu;simp at hu;subst hu;rfl
theorem me(l:List Int):∀x∈l,(cD x).length=1:=fun _ _=>rfl
theorem row_slr{k:IntKind}{w:World}{a:IP}{len cap:Nat}{b:List Int}
  (h:(a=none∧len=0∧cap=0∧b=[])∨∃x,a=some x∧len≤cap∧cap≤maxLen∧b.length=cap∧(∀i,i<b.length→w.cell? (x.add i)=some (.int k (b.getD i 0)))∧∀n∈b,(Lit.int k n).wf=true) (ap:k=.i64) :
  cJ (EF cD) 1 w w.heap.size a len (b.take len):=by
 subst ap;rcases h with⟨rfl,rfl,rfl,rfl⟩|⟨x,rfl,a2,_,bi,hc,_⟩
 ·exact cJ.bH _
 ·refine⟨by simp;omega,fun hn=>?_⟩;have h0:=hc 0 (by omega);have hx:x.spot=none:=by
   have ac:w.cell? x=some (.int .i64 (b.getD 0 0)):=by simpa[Addr.add] using h0
   cases hs:x.spot with
   | none=>rfl
   | some s=>
    rw[World.cell?] at ac;split at ac
    ·rw[hs] at ac;simp at ac
    ·cases ac
  have T:=World.block_lt_of_cell? w _ h0;refine⟨x.block,x.off,by rw[←hx],by simpa[Addr.add] using T,fun j v a1=>⟨cD v,rfl,rfl,fun i u hu=>?_⟩⟩;have bf:=(List.getElem?_eq_some_iff.1 a1).1;rw[List.length_take] at bf;have c:=hc j (by omega);rw[List.getElem?_take] at a1;split at a1
  ·have bC:b.getD j 0=v:=by rw[List.getD_eq_getElem?_getD,a1];rfl
   rw[bC] at c;have ak:i=0∧u=.int .i64 v:=by
    cases i with
    | zero=>simp[cD] at hu;exact⟨rfl,hu.symm⟩
    | succ i=>simp[cD] at hu
   obtain⟨rfl,rfl⟩:=ak;have I:x.add j=⟨x.block,x.off+j*1+0,none⟩:=by
    rw[Nat.mul_one,Nat.add_zero];unfold Addr.add;split
    ·rename_i eG;rw[eG,Nat.add_zero,←hx]
    ·rfl
   rw[I] at c;exact c
  ·cases a1
theorem dT:b2 prog 22 3 (.int .i64 0) 1 8:=b2.mk' Tryz.underlying22 (by kernel_rfl) rfl (by omega)
inductive D where
 | i (n:Int)
 | b (x:Bool)
 | s (x:ByteArray)
 | st (l:List D)
 | sl (l:List D)
mutual
def D.rep(w:World)(P:Nat→Prop):D→List Value→Prop
 | .i n=>fun cs=>cs=[.int .i64 n]
 | .b x=>fun cs=>cs=[.bool x]
 | .s x=>fun cs=>cs=[.string x]
 | .st l=>fun cs=>D.aO w P l cs
 | .sl l=>fun cs=>∃A c,cs=[.slice A l.length c]∧l.length≤c∧(0<l.length→∃b o xs,A=some ⟨b,o,none⟩∧P b∧D.aO w P l xs∧∀j u,xs[j]?=some u→w.cell? ⟨b,o+j,none⟩=some u)
def D.aO(w:World)(P:Nat→Prop):List D→List Value→Prop
 | []=>fun cs=>cs=[]
 | d::l=>fun cs=>∃x y,cs=x++y∧D.rep w P d x∧D.aO w P l y
end
mutual
def D.sz:D→Nat
 | .i _=>1
 | .b _=>1
 | .s _=>1
 | .st l=>D.xC l
 | .sl _=>1
def D.xC:List D→Nat
 | []=>0
 | d::l=>D.sz d+D.xC l
end
mutual
theorem D.kR{w:World}{P:Nat→Prop}:∀(d:D) (cs:List Value),d.rep w P cs→cs.length=d.sz
 | .i n,cs,h=>by simp only[D.rep] at h;subst h;rfl
 | .b x,cs,h=>by simp only[D.rep] at h;subst h;rfl
 | .s x,cs,h=>by simp only[D.rep] at h;subst h;rfl
 | .st l,cs,h=>by simp only[D.rep] at h;simp only[D.sz];exact D.jd l cs h
 | .sl l,cs,h=>by simp only[D.rep] at h;obtain⟨A,c,rfl,_⟩:=h;rfl
theorem D.jd{w:World}{P:Nat→Prop}:∀(l:List D) (cs:List Value),D.aO w P l cs→cs.length=D.xC l
 | [],cs,h=>by simp only[D.aO] at h;subst h;rfl
 | d::l,cs,h=>by
  simp only[D.aO] at h;obtain⟨x,y,rfl,hx,a4⟩:=h;simp only[D.xC,List.length_append,D.kR d x hx,D.jd l y a4]
end
mutual
theorem D.aT{w ab:World}{P:Nat→Prop}(ap:∀b,P b→ab.heap[b]?=w.heap[b]?):∀(d:D) (cs:List Value),d.rep w P cs→d.rep ab P cs
 | .i n,cs,h=>by simpa only[D.rep] using h
 | .b x,cs,h=>by simpa only[D.rep] using h
 | .s x,cs,h=>by simpa only[D.rep] using h
 | .st l,cs,h=>by simp only[D.rep] at h ⊢;exact D.bV ap l cs h
 | .sl l,cs,h=>by
  simp only[D.rep] at h ⊢;obtain⟨A,c,T,hc,hn⟩:=h;refine⟨A,c,T,hc,fun h0=>?_⟩;obtain⟨b,o,xs,bj,O,aY,a1⟩:=hn h0;exact⟨b,o,xs,bj,O,D.bV ap l xs aY,fun j u hu=>(World.cell?_of_block (w:=w) (ap b O)).trans (a1 j u hu)⟩
theorem D.bV{w ab:World}{P:Nat→Prop}(ap:∀b,P b→ab.heap[b]?=w.heap[b]?):∀(l:List D) (cs:List Value),D.aO w P l cs→D.aO ab P l cs
 | [],cs,h=>by simpa only[D.aO] using h
 | d::l,cs,h=>by
  simp only[D.aO] at h ⊢;obtain⟨x,y,rfl,hx,a4⟩:=h;exact⟨x,y,rfl,D.aT ap d x hx,D.bV ap l y a4⟩
end
mutual
theorem D.aH{w:World}{P bW:Nat→Prop}(hp:∀b,P b→bW b):∀(d:D) (cs:List Value),d.rep w P cs→d.rep w bW cs
 | .i n,cs,h=>by simpa only[D.rep] using h
 | .b x,cs,h=>by simpa only[D.rep] using h
 | .s x,cs,h=>by simpa only[D.rep] using h
 | .st l,cs,h=>by simp only[D.rep] at h ⊢;exact D.bL hp l cs h
 | .sl l,cs,h=>by
  simp only[D.rep] at h ⊢;obtain⟨A,c,T,hc,hn⟩:=h;refine⟨A,c,T,hc,fun h0=>?_⟩;obtain⟨b,o,xs,bj,O,aY,a1⟩:=hn h0;exact⟨b,o,xs,bj,hp b O,D.bL hp l xs aY,a1⟩
theorem D.bL{w:World}{P bW:Nat→Prop}(hp:∀b,P b→bW b):∀(l:List D) (cs:List Value),D.aO w P l cs→D.aO w bW l cs
 | [],cs,h=>by simpa only[D.aO] using h
 | d::l,cs,h=>by
  simp only[D.aO] at h ⊢;obtain⟨x,y,rfl,hx,a4⟩:=h;exact⟨x,y,rfl,D.aH hp d x hx,D.bL hp l y a4⟩
end
mutual
theorem D.rD{w:World}{P:Nat→Prop}:∀(d:D) (cs:List Value),d.rep w P cs→∀u∈cs,u.oneCell'=true
 | .i n,cs,h=>by simp only[D.rep] at h;subst h;simp[Value.oneCell']
 | .b x,cs,h=>by simp only[D.rep] at h;subst h;simp[Value.oneCell']
 | .s x,cs,h=>by simp only[D.rep] at h;subst h;simp[Value.oneCell']
 | .st l,cs,h=>by simp only[D.rep] at h;exact D.pA l cs h
 | .sl l,cs,h=>by simp only[D.rep] at h;obtain⟨A,c,rfl,_⟩:=h;simp[Value.oneCell']
theorem D.pA{w:World}{P:Nat→Prop}:∀(l:List D) (cs:List Value),D.aO w P l cs→∀u∈cs,u.oneCell'=true
 | [],cs,h=>by simp only[D.aO] at h;subst h;simp
 | d::l,cs,h=>by
  simp only[D.aO] at h;obtain⟨x,y,rfl,hx,a4⟩:=h;intro u hu;rcases List.mem_append.1 hu with hu|hu
  ·exact D.rD d x hx u hu
  ·exact D.pA l y a4 u hu
end
theorem D.cu{w:World}{P:Nat→Prop}:∀{l m:List D} {x y:List Value},D.aO w P l x→D.aO w P m y→D.aO w P (l++m) (x++y)
 | [],m,x,y,hx,a4=>by simp only[D.aO] at hx;subst hx;exact a4
 | d::l,m,x,y,hx,a4=>by
  simp only[D.aO,List.cons_append] at hx ⊢;obtain⟨a,c,rfl,I,hc⟩:=hx;exact⟨a,c++y,by rw[List.append_assoc],I,D.cu hc a4⟩
theorem D.lJ{w:World}{P:Nat→Prop}:∀{l m:List D} {x:List Value},D.aO w P (l++m) x→∃y z,x=y++z∧D.aO w P l y∧D.aO w P m z
 | [],m,x,h=>⟨[],x,rfl,by simp only[D.aO],h⟩
 | d::l,m,x,h=>by
  simp only[D.aO,List.cons_append] at h;obtain⟨a,c,rfl,I,hc⟩:=h;obtain⟨y,z,rfl,a4,bi⟩:=D.lJ hc;exact⟨a++y,z,by rw[List.append_assoc],by simp only[D.aO];exact⟨a,y,rfl,I,a4⟩,bi⟩
theorem D.bo{w:World}{P:Nat→Prop}{d:D}{x:List Value}:D.aO w P [d] x↔d.rep w P x:=by
 simp only[D.aO];constructor
 ·rintro⟨a,b,rfl,I,rfl⟩;simpa using I
 ·intro h;exact⟨x,[],by simp,h,rfl⟩
theorem D.jh{z:Nat}:∀{l:List D},(∀d∈l,d.sz=z)→D.xC l=l.length*z
 | [],_=>by simp[D.xC]
 | d::l,h=>by
  have aa:D.xC l=l.length*z:=D.jh (fun x hx=>h x (List.mem_cons_of_mem _ hx));simp only[D.xC,List.length_cons,Nat.succ_mul,h d (List.mem_cons_self),aa];omega
theorem D.rF{w:World}{P:Nat→Prop}{z:Nat}:∀{l:List D} {xs:List Value},D.aO w P l xs→(∀d∈l,d.sz=z)→∀{k:Nat} {d:D},l[k]?=some d→
  ∃cs,d.rep w P cs∧cs.length=z∧∀j u,cs[j]?=some u→xs[k*z+j]?=some u
 | [],xs,_,_,k,d,ap=>by simp at ap
 | e::l,xs,h,bi,0,d,ap=>by
  simp only[D.aO] at h;obtain⟨x,y,rfl,hx,_⟩:=h;simp only[List.getElem?_cons_zero,Option.some.injEq] at ap;subst ap;refine⟨x,hx,(D.kR _ _ hx).trans (bi e (by simp)),fun j u hu=>?_⟩;rw[Nat.zero_mul,Nat.zero_add,List.getElem?_append_left (List.getElem?_eq_some_iff.1 hu).1]
  exact hu
 | e::l,xs,h,bi,k+1,d,ap=>by
  simp only[D.aO] at h;obtain⟨x,y,rfl,hx,a4⟩:=h;simp only[List.getElem?_cons_succ] at ap;obtain⟨cs,aY,hl,a1⟩:=D.rF a4 (fun x hx=>bi x (by simp[hx])) ap;have aX:=(D.kR _ _ hx).trans (bi e (by simp));refine⟨cs,aY,hl,fun j u hu=>?_⟩;rw[List.getElem?_append_right (by rw[aX,Nat.succ_mul];omega),aX,show (k+1)*z+j - z=k*z+j by rw[Nat.succ_mul];omega];exact a1 j u hu
def Sl(w:World)(P:Nat→Prop)(A:IP)(n:Nat)(l:List D):Prop:=
 l.length=n∧(0<n→∃b o xs,A=some ⟨b,o,none⟩∧P b∧D.aO w P l xs∧∀j u,xs[j]?=some u→w.cell? ⟨b,o+j,none⟩=some u)
section
variable {w ab:World} {P bW:Nat→Prop} {A:IP} {n z:Nat} {l:List D}
theorem D.rH{cs:List Value}:(D.sl l).rep w P cs↔∃A c n,cs=[.slice A n c]∧n≤c∧Sl w P A n l:=by
 simp only[D.rep,Sl];constructor
 ·rintro⟨A,c,rfl,hc,h⟩;exact⟨A,c,_,rfl,hc,rfl,h⟩
 ·rintro⟨A,c,n,rfl,hc,rfl,h⟩;exact⟨A,c,rfl,hc,h⟩
theorem Sl.bH(A:IP):Sl w P A 0 []:=⟨rfl,fun h=>absurd h (by omega)⟩
theorem Sl.al(h:Sl w P A n l)(ap:∀b,P b→ab.heap[b]?=w.heap[b]?):Sl ab P A n l:=by
 refine⟨h.1,fun hn=>?_⟩;obtain⟨b,o,xs,bj,O,aY,a1⟩:=h.2 hn;exact⟨b,o,xs,bj,O,D.bV ap l xs aY,fun j u hu=>(World.cell?_of_block (w:=w) (ap b O)).trans (a1 j u hu)⟩
theorem Sl.mono(h:Sl w P A n l)(hp:∀b,P b→bW b):Sl w bW A n l:=by
 refine⟨h.1,fun hn=>?_⟩;obtain⟨b,o,xs,bj,O,aY,a1⟩:=h.2 hn;exact⟨b,o,xs,bj,hp b O,D.bL hp l xs aY,a1⟩
theorem Sl.some_(h:Sl w P A n l)(hn:0<n):∃b o,A=some ⟨b,o,none⟩∧P b:=by
 obtain⟨b,o,xs,bj,O,_⟩:=h.2 hn;exact⟨b,o,bj,O⟩
theorem Sl.none_(h:Sl w P none n l):n=0:=by
 rcases Nat.eq_zero_or_pos n with h0|h0
 ·exact h0
 ·obtain⟨b,o,bj,_⟩:=h.some_ h0;cases bj
theorem Sl.at_(h:Sl w P A n l)(bi:∀d∈l,d.sz=z){k:Nat}(ap:k<n) :
  ∃b o d cs,A=some ⟨b,o,none⟩∧P b∧l[k]?=some d∧d.rep w P cs∧cs.length=z∧∀j u,cs[j]?=some u→w.cell? ⟨b,o+k*z+j,none⟩=some u:=by
 obtain⟨b,o,xs,bj,O,aY,a1⟩:=h.2 (by omega);have hm:l[k]?=some (l[k]'(by have:=h.1;omega)):=List.getElem?_eq_getElem _;obtain⟨cs,hd,hl,hc⟩:=D.rF aY bi hm;exact⟨b,o,_,cs,bj,O,hm,hd,hl,fun j u hu=>by rw[Nat.add_assoc];exact a1 _ u (hc j u hu)⟩
theorem Sl.gH{α:Type}{enc:α→D}{l:List α}(h:Sl w P A n (l.map enc))(bi:∀x,(enc x).sz=z){k:Nat}(ap:k<n) :
  ∃b o x cs,A=some ⟨b,o,none⟩∧P b∧l[k]?=some x∧(enc x).rep w P cs∧cs.length=z∧∀j u,cs[j]?=some u→w.cell? ⟨b,o+k*z+j,none⟩=some u:=by
 obtain⟨b,o,d,cs,bj,O,hd,aY,hl,hc⟩:=h.at_ (z:=z) (fun d hd=>by obtain⟨x,_,rfl⟩:=List.mem_map.1 hd;exact bi x) ap;rw[List.getElem?_map] at hd
 cases hx:l[k]? with
 | none=>rw[hx] at hd;cases hd
 | some x=>
  rw[hx] at hd;injection hd with hd;subst hd;exact⟨b,o,x,cs,bj,O,rfl,aY,hl,hc⟩
theorem Sl.take(h:Sl w P A n l){m:Nat}(hm:m≤n):Sl w P A m (l.take m):=by
 refine⟨by have:=h.1;simp;omega,fun h0=>?_⟩;obtain⟨b,o,xs,bj,O,aY,a1⟩:=h.2 (by omega);rw[←List.take_append_drop m l] at aY;obtain⟨y,bp,rfl,a4,_⟩:=D.lJ aY;exact⟨b,o,y,bj,O,a4,fun j u hu=>a1 j u (by rw[List.getElem?_append_left (List.getElem?_eq_some_iff.1 hu).1];exact hu)⟩
theorem Sl.src(h:Sl w P A n l)(bi:∀d∈l,d.sz=z):∃xs,D.aO w P l xs∧Src w z A n xs:=by
 rcases Nat.eq_zero_or_pos n with hn|hn
 ·subst hn;have:l=[]:=List.eq_nil_of_length_eq_zero h.1;subst this;exact⟨[],by simp only[D.aO],by simp,by simp,fun h=>absurd h (by omega)⟩
 ·obtain⟨b,o,xs,bj,O,aY,a1⟩:=h.2 hn;exact⟨xs,aY,by rw[D.jd _ _ aY,D.jh bi,h.1],D.pA l xs aY,fun _=>⟨b,o,bj,a1⟩⟩
theorem Sl.sH{base:Nat}{e:TypeId}{c:Nat}{xs:List Value}(h:w.ownsRow base e z (.slice A n c) n xs)(aY:D.aO w P l xs)(hl:l.length=n)(U:∀g,A=some ⟨g,0,none⟩→base≤g→g<w.heap.size→P g):Sl w P A n l:=by
 refine⟨hl,fun hn=>?_⟩;obtain⟨g,bj,O,aM,hc,_⟩:=kQ h hn;exact⟨g,0,xs,bj,U g bj O aM,aY,fun j u hu=>by rw[Nat.zero_add];exact hc j u hu⟩
end
abbrev av(w:World):Nat→Prop:=fun b=>b<w.heap.size
theorem D.on{w ab:World}{d:D}{cs:List Value}(h:d.rep w (av w) cs)(O:Below w.heap.size w ab):d.rep ab (av ab) cs:=
 D.aH (fun _ al=>Nat.lt_of_lt_of_le al O.size) _ _ (D.aT (fun b al=>O.block b al) _ _ h)
theorem Sl.on{w ab:World}{A:IP}{n:Nat}{l:List D}(h:Sl w (av w) A n l)(O:Below w.heap.size w ab):Sl ab (av ab) A n l:=
 (h.al (fun b al=>O.block b al)).mono (fun _ al=>Nat.lt_of_lt_of_le al O.size)
structure Fr(M:Nat→Prop)(w ab:World):Prop where
 os:ab.os=w.os
 tape:ab.tape=w.tape
 output:ab.output=w.output
 size:w.heap.size≤ab.heap.size
 block:∀k,k<w.heap.size→¬M k→ab.heap[k]?=w.heap[k]?
abbrev Ext:World→World→Prop:=Fr fun _=>False
section
variable {M M':Nat→Prop} {a b c:World}
theorem Fr.refl(M:Nat→Prop)(w:World):Fr M w w:=⟨rfl,rfl,rfl,Nat.le_refl _,fun _ _ _=>rfl⟩
theorem Fr.trans(h:Fr M a b)(k:Fr M b c):Fr M a c:=
 ⟨k.os.trans h.os,k.tape.trans h.tape,k.output.trans h.output,Nat.le_trans h.size k.size,fun i ak hn=>(k.block i (Nat.lt_of_lt_of_le ak h.size) hn).trans (h.block i ak hn)⟩
theorem Fr.mono(h:Fr M a b)(a6:∀k,M k→M' k):Fr M' a b:=⟨h.os,h.tape,h.output,h.size,fun k ap hn=>h.block k ap fun hm=>hn (a6 k hm)⟩
theorem Fr.of(h:Below a.heap.size a b):Fr M a b:=⟨h.os,h.tape,h.output,h.size,fun k ap _=>h.block k ap⟩
theorem Fr.below{B:Nat}(h:Fr M a b)(aS:B≤a.heap.size)(a6:∀k,k<B→¬M k):Below B a b:=⟨h.os,h.tape,h.output,h.size,fun k ap=>h.block k (Nat.lt_of_lt_of_le ap aS) (a6 k ap)⟩
theorem Fr.low(h:Fr M a b)(a6:∀k,M k→a.heap.size≤k):Ext a b:=⟨h.os,h.tape,h.output,h.size,fun k ap _=>h.block k ap fun hm=>by have:=a6 k hm;omega⟩
theorem Fr.ext(h:Ext a b):Below a.heap.size a b:=h.below (Nat.le_refl _) fun _ _ h=>h
theorem Fr.drew(h:Fr M a b):Fr M a b.drew:=⟨h.os,h.tape,h.output,h.size,h.block⟩
theorem Fr.drewN(h:Fr M a b)(n:Nat):Fr M a (b.drewN n):=⟨h.os,h.tape,h.output,h.size,h.block⟩
theorem Fr.alloc(h:Fr M a b)(o:Obj):Fr M a (b.alloc o):=
 ⟨h.os,h.tape,h.output,by have:=h.size;simp;omega,fun k ap hn=>(Below.heap_alloc b o k (Nat.lt_of_lt_of_le ap h.size)).trans (h.block k ap hn)⟩
theorem Fr.setCell(h:Fr M a b){p:Addr}(hp:M p.block∨a.heap.size≤p.block)(v:Value):Fr M a (b.setCell p v):=by
 refine⟨h.os,h.tape,h.output,by simpa using h.size,fun k ap hn=>?_⟩;have:k≠p.block:=by
  rintro rfl;rcases hp with hp|hp
  ·exact hn hp
  ·omega
 rw[Below.heap_setCell _ _ _ _ this];exact h.block k ap hn
theorem Fr.eA(h:Fr M a b)(k:Below a.heap.size b c):Fr M a c:=
 ⟨k.os.trans h.os,k.tape.trans h.tape,k.output.trans h.output,Nat.le_trans h.size k.size,fun i ak hn=>(k.block i ak).trans (h.block i ak hn)⟩
theorem Fr.grown{row:Option Nat}(h:Fr M a b)(aM:b.grownBy c row)(aY:∀g,row=some g→M g∨a.heap.size≤g):Fr M a c:=by
 refine⟨aM.os.trans h.os,aM.tape.trans h.tape,aM.output.trans h.output,Nat.le_trans h.size aM.size,fun k ap hn=>?_⟩;refine(aM.block k (Nat.lt_of_lt_of_le ap h.size) fun e=>?_).trans (h.block k ap hn);rcases aY k e.symm with ac|ac
 ·exact hn ac
 ·omega
theorem Fr.cell(h:Fr M a b){k j:Nat}(ap:k<a.heap.size)(hn:¬M k):b.cell? ⟨k,j,none⟩=a.cell? ⟨k,j,none⟩:=World.cell?_of_block (h.block k ap hn)
theorem Fr.frozen(h:Fr M a b){k j:Nat}(ap:k<a.heap.size)(hn:¬M k):b.frozen? ⟨k,j,none⟩=a.frozen? ⟨k,j,none⟩:=by
 simp only[World.frozen?,h.block k ap hn]
theorem Fr.two(h:Fr M a b):(∀k j,k<a.heap.size→¬M k→b.cell? ⟨k,j,none⟩=a.cell? ⟨k,j,none⟩)∧(∀k j,k<a.heap.size→¬M k→b.frozen? ⟨k,j,none⟩=a.frozen? ⟨k,j,none⟩):=
 ⟨fun _ _ ap hn=>h.cell ap hn,fun _ _ ap hn=>h.frozen ap hn⟩
theorem Fr.rP(h:Ext a b):(∀k j,k<a.heap.size→b.cell? ⟨k,j,none⟩=a.cell? ⟨k,j,none⟩)∧(∀k j,k<a.heap.size→b.frozen? ⟨k,j,none⟩=a.frozen? ⟨k,j,none⟩):=
 ⟨fun _ _ ap=>h.cell ap (fun h=>h),fun _ _ ap=>h.frozen ap (fun h=>h)⟩
theorem Fr.twod(h:Fr M a.drew b):(∀k j,k<a.heap.size→¬M k→b.cell? ⟨k,j,none⟩=a.cell? ⟨k,j,none⟩)∧(∀k j,k<a.heap.size→¬M k→b.frozen? ⟨k,j,none⟩=a.frozen? ⟨k,j,none⟩):=
 ⟨fun _ _ ap hn=>h.cell ap hn,fun _ _ ap hn=>h.frozen ap hn⟩
theorem Fr.Er(h:Ext a.drew b):(∀k j,k<a.heap.size→b.cell? ⟨k,j,none⟩=a.cell? ⟨k,j,none⟩)∧(∀k j,k<a.heap.size→b.frozen? ⟨k,j,none⟩=a.frozen? ⟨k,j,none⟩):=
 ⟨fun _ _ ap=>h.cell ap (fun h=>h),fun _ _ ap=>h.frozen ap (fun h=>h)⟩
theorem Fr.iG(h:Ext a.drew.drew b):(∀k j,k<a.heap.size→b.cell? ⟨k,j,none⟩=a.cell? ⟨k,j,none⟩)∧(∀k j,k<a.heap.size→b.frozen? ⟨k,j,none⟩=a.frozen? ⟨k,j,none⟩):=
 ⟨fun _ _ ap=>h.cell ap (fun h=>h),fun _ _ ap=>h.frozen ap (fun h=>h)⟩
theorem Fr.Gi(h:Fr M a.drew.drew b):(∀k j,k<a.heap.size→¬M k→b.cell? ⟨k,j,none⟩=a.cell? ⟨k,j,none⟩)∧(∀k j,k<a.heap.size→¬M k→b.frozen? ⟨k,j,none⟩=a.frozen? ⟨k,j,none⟩):=
 ⟨fun _ _ ap hn=>h.cell ap hn,fun _ _ ap hn=>h.frozen ap hn⟩
theorem Fr.aJ(h:Fr M a.drew b):Fr M a b:=⟨h.os,h.tape,h.output,h.size,h.block⟩
end
abbrev off(M:Nat→Prop)(w:World):Nat→Prop:=fun b=>b<w.heap.size∧¬M b
section
variable {M:Nat→Prop} {w ab:World}
theorem sI(h:Fr M w ab):∀b,off M w b→off M ab b:=fun _ O=>⟨Nat.lt_of_lt_of_le O.1 h.size,O.2⟩
theorem D.dh{d:D}{cs:List Value}(h:d.rep w (off M w) cs)(O:Fr M w ab):d.rep ab (off M ab) cs:=
 D.aH (sI O) _ _ (D.aT (fun b al=>O.block b al.1 al.2) _ _ h)
theorem Sl.dh{A:IP}{n:Nat}{l:List D}(h:Sl w (off M w) A n l)(O:Fr M w ab):Sl ab (off M ab) A n l:=
 (h.al (fun b al=>O.block b al.1 al.2)).mono (sI O)
end
def an(w:World)(g:Nat)(t:TypeId)(cs:Array Value):Prop:=w.heap[g]?=some (.cells cs t (0,0))
section
variable {w ab:World} {g:Nat} {t:TypeId} {cs:Array Value} {M:Nat→Prop}
theorem an.lt(h:an w g t cs):g<w.heap.size:=by
 rcases Nat.lt_or_ge g w.heap.size with al|aZ
 ·exact al
 ·unfold an at h;rw[Array.getElem?_eq_none aZ] at h;cases h
theorem an.cell(h:an w g t cs)(i:Nat):w.cell? ⟨g,i,none⟩=cs[i]?:=cell_of_row w g i cs t (0,0) h
theorem an.frozen(h:an w g t cs)(i:Nat):w.frozen? ⟨g,i,none⟩=false:=by
 unfold an at h;simp[World.frozen?,h]
theorem an.two(h:an w g t cs):(∀i,w.cell? ⟨g,i,none⟩=cs[i]?)∧(∀i,w.frozen? ⟨g,i,none⟩=false)∧g<w.heap.size:=⟨h.cell,h.frozen,h.lt⟩
theorem an.new(w:World)(t:TypeId)(cs:Array Value):an (w.alloc (.cells cs t)) w.heap.size t cs:=heap_alloc_new w _
theorem an.fu(w:World)(t:TypeId)(cs:Array Value)(aM:g=w.heap.size):an (w.alloc (.cells cs t)) g t cs:=by
 subst aM;exact heap_alloc_new w _
theorem an.drew(h:an w g t cs):an w.drew g t cs:=h
theorem an.alloc(h:an w g t cs)(o:Obj):an (w.alloc o) g t cs:=(Below.heap_alloc w o g h.lt).trans h
theorem an.aI(h:an w g t cs)(i:Nat)(u:Value):an (w.setCell ⟨g,i,none⟩ u) g t (cs.setIfInBounds i u):=by
 unfold an at h ⊢;simp[World.setCell,Array.getElem?_modify,h]
theorem an.GH(h:an w g t cs){p:Addr}(hp:g≠p.block)(u:Value):an (w.setCell p u) g t cs:=(Below.heap_setCell w p u g hp).trans h
theorem an.below{B:Nat}(h:an w g t cs)(O:Below B w ab)(aM:g<B):an ab g t cs:=(O.block g aM).trans h
theorem an.on(h:an w g t cs)(O:Fr M w ab)(aM:¬M g):an ab g t cs:=(O.block g h.lt aM).trans h
theorem an.aj(h:an w g t cs)(O:Ext w ab):an ab g t cs:=(O.block g h.lt fun h=>h).trans h
theorem an.grown{row:Option Nat}(h:an w g t cs)(O:w.grownBy ab row)(aM:some g≠row):an ab g t cs:=(O.block g h.lt aM).trans h
end
theorem PU:(∀(t:Array Value) (d:List Deferred) (i:Nat) (v:Value),Act.put ⟨t,d⟩ (some i) v=⟨t.setIfInBounds i v,d⟩)∧(∀(l:List Value) (i:Nat) (v:Value),l.toArray.setIfInBounds i v=(l.set i v).toArray)∧(∀(x v:Value) (l:List Value),(x::l).set 0 v=v::l)∧(∀(x v:Value) (l:List Value) (i:Nat),(x::l).set (i+1) v=x::l.set i v)∧
  (∀(l:List Oper) (i:Nat) (h:i<l.toArray.size),l.toArray[i]'h=l[i]'(by simpa using h))∧(∀(x:Oper) (l:List Oper) (h:0<(x::l).length),(x::l)[0]'h=x)∧(∀(x:Oper) (l:List Oper) (i:Nat) (h:i+1<(x::l).length),(x::l)[i+1]'h=l[i]'(by simpa using h)):=
 ⟨fun _ _ _ _=>rfl,fun _ _ _=>by simp,fun _ _ _=>rfl,fun _ _ _ _=>rfl,fun _ _ _=>by simp,fun _ _ _=>rfl,fun _ _ _ _=>rfl⟩
section
variable {P:Program} {ops:Array Oper} {Q:Exit→Act→World→Prop} {R:World→World→Prop} {M:Nat→Prop} {tails:List Nat} {i:Nat} {o:Oper} {v:Value} {a r:Act} {w:World}
theorem pf{rest:List (Nat×Nat)}(h:bQ P ops Q R rest r w)(ak:ops[i]?=some o:=by rfl)(hw:Region.wanted o (yielded ops a.tmps)=true:=by rfl)(bC:∀V,(execOp a.eval o).run P V=.ok (.value v) V:=by intro V;(go_simp<;>with_reducible rfl))(I:a.put o.dst v=r:=by (simp only[PU];rfl)) :
  bQ P ops Q R ((i,3)::rest) a w:=a9 ak hw bC (I▸h)
theorem tf{rest:PT}(h:di P ops Q R tails rest r w)(ak:ops[i]?=some o:=by rfl)(hw:Region.wanted o (yielded ops a.tmps)=true:=by rfl)(bC:∀V,(execOp a.eval o).run P V=.ok (.value v) V:=by intro V;(go_simp<;>with_reducible rfl))(I:a.put o.dst v=r:=by (simp only[PU];rfl)) :
  di P ops Q R tails (.free i rest) a w:=xH ak hw bC (I▸h)
theorem ph{rest:List (Nat×Nat)}(h:bQ P ops Q R rest r w)(ak:ops[i]?=some o:=by rfl)(hw:Region.wanted o (yielded ops a.tmps)=true:=by rfl)(bC:∀V,R w V→(execOp a.eval o).run P V=.ok (.value v) V:=by intro V hV;obtain⟨hVc,hVf⟩:=Fr.Er hV;(go_simp<;>with_reducible rfl))(I:a.put o.dst v=r:=by (simp only[PU];rfl)) :
  bQ P ops Q R ((i,0)::rest) a w:=bB ak hw bC (I▸h)
theorem th{rest:PT}(h:di P ops Q R tails rest r w)(ak:ops[i]?=some o:=by rfl)(hw:Region.wanted o (yielded ops a.tmps)=true:=by rfl)(bC:∀V,R w V→(execOp a.eval o).run P V=.ok (.value v) V:=by intro V hV;obtain⟨hVc,hVf⟩:=Fr.Er hV;(go_simp<;>with_reducible rfl))(I:a.put o.dst v=r:=by (simp only[PU];rfl)) :
  di P ops Q R tails (.held i rest) a w:=cd ak hw bC (I▸h)
theorem Hm{rest:List (Nat×Nat)}(h:bQ P ops Q R rest r w)(ak:ops[i]?=some o:=by rfl)(hw:Region.wanted o (yielded ops a.tmps)=true:=by rfl)(bC:∀V,R w V→(execOp a.eval o).run P V=.ok (.value v) V:=by intro V hV;obtain⟨hVc,hVf⟩:=Fr.rP hV;(go_simp<;>with_reducible rfl))(I:a.put o.dst v=r:=by (simp only[PU];rfl)) :
  bQ P ops Q R ((i,0)::rest) a w:=bB ak hw bC (I▸h)
theorem m0{rest:List (Nat×Nat)}(h:bQ P ops Q R rest r w)(ak:ops[i]?=some o:=by rfl)(hw:Region.wanted o (yielded ops a.tmps)=true:=by rfl)(bC:∀V,R w V→(execOp a.eval o).run P V=.ok (.value v) V:=by intro V hV;obtain⟨hVc,hVf⟩:=Fr.twod hV;(go_simp<;>with_reducible rfl))(I:a.put o.dst v=r:=by (simp only[PU];rfl)) :
  bQ P ops Q R ((i,0)::rest) a w:=bB ak hw bC (I▸h)
theorem rL{rest:PT}(h:di P ops Q R tails rest r w)(ak:ops[i]?=some o:=by rfl)(hw:Region.wanted o (yielded ops a.tmps)=true:=by rfl)(bC:∀V,R w V→(execOp a.eval o).run P V=.ok (.value v) V:=by intro V hV;obtain⟨hVc,hVf⟩:=Fr.twod hV;(go_simp<;>with_reducible rfl))(I:a.put o.dst v=r:=by (simp only[PU];rfl)) :
  di P ops Q R tails (.held i rest) a w:=cd ak hw bC (I▸h)
theorem Hn{rest:List (Nat×Nat)}(h:bQ P ops Q R rest r w)(ak:ops[i]?=some o:=by rfl)(hw:Region.wanted o (yielded ops a.tmps)=true:=by rfl)(bC:∀V,R w V→(execOp a.eval o).run P V=.ok (.value v) V:=by intro V hV;obtain⟨hVc,hVf⟩:=Fr.two hV;(go_simp<;>with_reducible rfl))(I:a.put o.dst v=r:=by (simp only[PU];rfl)) :
  bQ P ops Q R ((i,0)::rest) a w:=bB ak hw bC (I▸h)
theorem G8{rest:PT}(h:di P ops Q R tails rest r w)(ak:ops[i]?=some o:=by rfl)(hw:Region.wanted o (yielded ops a.tmps)=true:=by rfl)(bC:∀V,R w V→(execOp a.eval o).run P V=.ok (.value v) V:=by intro V hV;obtain⟨hVc,hVf⟩:=Fr.two hV;(go_simp<;>with_reducible rfl))(I:a.put o.dst v=r:=by (simp only[PU];rfl)) :
  di P ops Q R tails (.held i rest) a w:=cd ak hw bC (I▸h)
theorem C8{rest:List (Nat×Nat)}(h:bQ P ops Q R rest r w)(ak:ops[i]?=some o:=by rfl)(hw:Region.wanted o (yielded ops a.tmps)=true:=by rfl)(bC:∀V,R w V→(execOp a.eval o).run P V=.ok (.value v) V:=by intro V hV;obtain⟨hVc,hVf⟩:=Fr.Gi hV;(go_simp<;>with_reducible rfl))(I:a.put o.dst v=r:=by (simp only[PU];rfl)) :
  bQ P ops Q R ((i,0)::rest) a w:=bB ak hw bC (I▸h)
theorem p2{ab:World}{rest:List (Nat×Nat)}{M:Nat→Prop}(h:bQ P ops Q (Fr M) rest r ab)(ak:ops[i]?=some o:=by rfl)(hx:∀K:Act→World→Prop,K r ab→if Region.wanted o (yielded ops a.tmps)=true then o.wp P a w K Q else K (a.put o.dst undef) w:=by (intro K hK;go_simp;(try simp only[PU] at hK ⊢);exact hK))(cy:Fr M w ab:=by exact(Fr.refl _ _).alloc _) :
  bQ P ops Q (Fr M) ((i,1)::rest) a w:=aD ak fun K hK=>hx K (hK _ _ cy h)
theorem dS{ab:World}{p:PT}{M:Nat→Prop}(h:di P ops Q (Fr M) tails p r ab)(ak:ops[i]?=some o:=by rfl)(hx:∀K:Act→World→Prop,K r ab→if Region.wanted o (yielded ops a.tmps)=true then o.wp P a w K Q else K (a.put o.dst undef) w:=by (intro K hK;go_simp;(try simp only[PU] at hK ⊢);exact hK))(cy:Fr M w ab:=by exact(Fr.refl _ _).alloc _)(a5:tails.contains i=false:=by rfl) :
  nK P ops Q (Fr M) tails i p a w:=aG ak (fun K hK=>hx K (hK _ _ cy h)) a5
end
section
variable {P:Program} {ops:Array Oper} {Q:Exit→Act→World→Prop} {M:Nat→Prop} {id:Nat} {a:Act} {w:World}
theorem eB(M:Nat→Prop)(e:List (Nat×Nat))(h:bQ P ops Q (Fr M) e a w.drew)(ac:P.follows .mixedOrders=true:=by kernel_rfl)(J:uK .any ops e=true:=by kernel_rfl)(bp:∀c a d v w,Q (.panic c) (a.put d v) w→Q (.panic c) a w:=by (intro _ _ d _ _ h;first|(cases d<;>exact h)|exact hQ0 _ _ _ _ _ h)):(Code.region id ops true).wp P Q a w:=
 ks (Fr M) e ac J (Fr.refl _) (fun _ _ _ h k=>h.trans k) bp h
theorem sU(M:Nat→Prop)(tails:List Nat)(p:PT)(h:di P ops Q (Fr M) tails p a w.drew)(ac:P.follows .mixedOrders=true:=by kernel_rfl)(J:vh .any ops tails p=true:=by kernel_rfl)(bp:∀c a d v w,Q (.panic c) (a.put d v) w→Q (.panic c) a w:=by (intro _ _ d _ _ h;first|(cases d<;>exact h)|exact hQ0 _ _ _ _ _ h)):(Code.region id ops true).wp P Q a w:=
 pL (Fr M) tails p ac J (Fr.refl _) (fun _ _ _ h k=>h.trans k) bp h
end
theorem dA{K:Act→World→Prop}{c:World→Prop}{b:Act→World→Prop}{a r:Act}{ab:World}(hK:∀r ab,c ab→b r ab→K r ab)(cy:c ab)(h:b r ab)(e:a=r:=by ((try simp only[PU]);rfl)):K a ab:=hK _ _ cy (e▸h)
theorem dW{K:Act→World→Prop}{b:Act→World→Prop}{a r:Act}{ab:World}(hK:∀r ab,b r ab→K r ab)(h:b r ab)(e:a=r:=by ((try simp only[PU]);rfl)):K a ab:=hK _ _ (e▸h)
end Go.Proofs.YtajlmkkidmjgoaaGreatDoor
