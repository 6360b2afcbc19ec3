/- Part 0 of the proof (short steps), without conditions of its own. -/
import Derived.Deep.Draws
import Derived.Maps.AppendAt
import Derived.OrdersHeld
import Derived.StillTail
import Derived.Test.YtjhgbdckgkppnaaGreatRows
import Derived.WalkKit
import Derived.WalkLawsBesides
import Derived.WalkSpells
namespace Go.Proofs.YtjhgbdckgkppnaaGreat
open Go.RowKit Go.Proofs.Tryz
set_option maxRecDepth 1000000
set_option maxHeartbeats 25600000
set_option linter.unusedVariables false
abbrev GR:=Option Addr
abbrev GS:=List ByteArray
def GU(p:Prop):Prop:=p
theorem GU.o{p:Prop}(h:GU p):p:=h
section
variable {P:Program} {ops:Array Oper} {Q:Exit→Act→World→Prop} {md:Region.Mode} {R:World→World→Prop} {T:Nat→Bool}
def jd(P:Program)(md:Region.Mode)(ops:Array Oper)(Q:Exit→Act→World→Prop)(R:World→World→Prop)(T:Nat→Bool):Nat→Array Bool→Act→World→Prop
 | 0,listed,a,w=>Region.ready md ops listed=[]∧Q .normal a w
 | fuel+1,listed,a,w=>
  (Region.ready md ops listed=[]→Q .normal a w)∧
  ∀i∈Region.ready md ops listed,wpOp P ops Q i (fun I ab=>(T i=true→R w ab)∧jd P md ops Q R T fuel (listed.setIfInBounds i true) I ab) a w
theorem kS:∀(fuel:Nat) (listed:Array Bool) (a:Act) (w:World),jd P md ops Q R T fuel listed a w→wpAny P md ops Q fuel listed a w
 | 0,_,_,_,h=>h
 | fuel+1,_,_,_,h=>⟨h.1,fun i aJ=>wpOp_mono (fun I ab F=>kS fuel _ I ab F.2) (h.2 i aJ)⟩
def iP(md:Region.Mode)(ops:Array Oper)(listed:Array Bool):Prop:=
 ∀j g,ops[j]?=some g→listed.getD j false=true→∀e∈g.after,Region.binds md e=true→listed.getD e.on false=true
theorem iP.set{i:Nat}{listed:Array Bool}(inv:iP md ops listed)(aJ:i∈Region.ready md ops listed):iP md ops (listed.setIfInBounds i true):=by
 obtain⟨_,p,n,y⟩:=mem_ready.1 aJ;intro j g ba hl e he O;by_cases J:i=j
 ·subst J;have:g=p:=Option.some.inj (ba.symm.trans n);subst this;exact getD_set_true (y e he O)
 ·rw[getD_set_ne false J] at hl;exact getD_set_true (inv j g ba hl e he O)
def zX(md:Region.Mode)(ops:Array Oper):Nat→Nat→Nat→Bool
 | 0,_,_=>false
 | f+1,j,i=>match ops[j]? with
  | none=>false
  | some g=>g.after.any fun e=>Region.binds md e && (e.on == i || zX md ops f e.on i)
theorem zY{i:Nat}{listed:Array Bool}(inv:iP md ops listed):∀(f j:Nat),zX md ops f j i=true→
  (∃g,ops[j]?=some g∧∀e∈g.after,Region.binds md e=true→listed.getD e.on false=true)→listed.getD i false=true:=by
 intro f
 induction f with
 | zero=>intro j h;simp[zX] at h
 | succ f aa=>
  intro j h ba;obtain⟨g,bi,y⟩:=ba;simp only[zX,bi] at h;obtain⟨e,he,O⟩:=Array.any_eq_true'.1 h;simp only[Bool.and_eq_true,Bool.or_eq_true,beq_iff_eq] at O;have hl:=y e he O.1;rcases O.2 with J|J
  ·rw[←J];exact hl
  ·refine aa e.on J ?_
   cases ap:ops[e.on]? with
   | none=>cases f<;>simp[zX,ap] at J
   | some ok=>exact⟨ok,rfl,fun l a aN=>inv e.on ok ap hl l a aN⟩
theorem gY{i:Nat}{p:Oper}{v:Value}{U:World→World→Prop}(t:∀a b c,R a b→U b c→U a c)(l:∀a,R a a)(A:∀a,U a a)(aJ:ops[i]?=some p)(q:∀(j:Nat) (o:Oper) cs b,ops[j]?=some o→o.op≠.select cs b)
  (aU:∀c a w,Q (.panic c) (a.put p.dst v) w→Q (.panic c) a w) (aR:(∀a b,U a b)∨∀j,T j=false→∃f,zX md ops f j i=true) :
  ∀(fuel:Nat) (listed:Array Bool) (a:Act) (w:World),iP md ops listed→
   (∀j g,ops[j]?=some g→j≠i→listed.getD j true=false→(∀e∈g.after,Region.binds md e=true→e.on≠i)→p.apart ops g=true)→
   i∈Region.ready md ops listed→YieldsIf P ops (U w) p v a→
   jd P md ops Q R T fuel (listed.setIfInBounds i true) (a.put p.dst v) w→jd P md ops Q R T (fuel+1) listed a w:=by
 intro fuel
 induction fuel with
 | zero=>
  intro listed a w _ _ aX a3 H;refine⟨fun h=>(by rw[h] at aX;cases aX),fun j ba=>?_⟩;by_cases G:j=i
  ·subst G;exact a3.wpOp aJ (A w) ⟨fun _=>l w,H⟩
  ·have:=ready_mono ba G;rw[H.1] at this
   cases this
 | succ fuel aa=>
  intro listed a w inv bX aX a3 H;refine⟨fun h=>(by rw[h] at aX;cases aX),fun j ba=>?_⟩;by_cases G:j=i
  ·subst G;exact a3.wpOp aJ (A w) ⟨fun _=>l w,H⟩
  ·have ac:=H.2 j (ready_mono ba G);obtain⟨x,g,s,y⟩:=mem_ready.1 ba;have n:=(mem_ready.1 aX).1;have z:∀e∈g.after,Region.binds md e=true→e.on≠i:=fun e he O heq=>by
    have ac:=y e he O;have h0:=n;rw[heq] at ac;rcases Nat.lt_or_ge i listed.size with F|F
    ·simp[F] at h0 ac;rw[h0] at ac;cases ac
    ·simp[Array.getElem?_eq_none F] at ac
   have m:(∀a b,U a b)∨T j=true:=by
    rcases aR with aR|aR
    ·exact .inl aR
    refine .inr ?_
    cases m:T j with
    | true=>rfl
    | false=>
     obtain⟨f,aw⟩:=aR j m;have:=zY inv f j aw ⟨g,s,y⟩;rcases Nat.lt_or_ge i listed.size with F|F
     ·simp[F] at n this;rw[n] at this;cases this
     ·simp[Array.getElem?_eq_none F] at this
   have J:=wpOp_putIf (S:=U w) s (bX j g s G x z) (fun cs b=>q i p cs b aJ) (fun cs b=>q j g cs b s) aU a3 ac;have r:∀k ok,ops[k]?=some ok→k≠i→(listed.setIfInBounds j true).getD k true=false→
     (∀e∈ok.after,Region.binds md e=true→e.on≠i)→p.apart ops ok=true:=fun k ok ap C B cr=>by
    refine bX k ok ap C ?_ cr;by_cases u:j=k
    ·subst u;exact x
    ·rw[getD_set_ne true u] at B;exact B
   refine wpOp_mono (fun I ab aS=>?_) J;have d:YieldsIf P ops (U ab) p v I:=aS.1.imp (fun⟨hw,bC⟩=>⟨hw,fun V hV=>bC V (m.elim (fun h=>h _ _) fun h=>t _ _ _ (aS.2.1 h) hV)⟩) id;refine⟨aS.2.1,aa (listed.setIfInBounds j true) I ab (inv.set ba) r (ready_mono aX (Ne.symm G)) d ?_⟩;rw[Array.setIfInBounds_comm _ _ G];exact aS.2.2
def bJ(P:Program)(ops:Array Oper)(Q:Exit→Act→World→Prop)(R:World→World→Prop):List (Nat×Nat)→Act→World→Prop
 | [],a,w=>Q .normal a w
 | (i,0)::rest,a,w=>∃o v,ops[i]?=some o∧YieldsIf P ops (R w) o v a∧bJ P ops Q R rest (a.put o.dst v) w
 | (i,3)::rest,a,w=>∃o v,ops[i]?=some o∧YieldsIf P ops (fun _=>True) o v a∧bJ P ops Q R rest (a.put o.dst v) w
 | (i,k+1)::rest,a,w=>∃o,ops[i]?=some o∧∀K:Act→World→Prop,(∀I ab,(k=0→R w ab)→bJ P ops Q R rest I ab→K I ab)→
   (if Region.wanted o (yielded ops a.tmps)=true then o.wp P a w K Q else K (a.put o.dst undef) w)
def kp(md:Region.Mode)(ops:Array Oper):List (Nat×Nat)→Array Bool→Bool
 | [],listed=>(Region.ready md ops listed).isEmpty
 | (i,0)::rest,listed=>Region.free md ops listed i && (Region.ready md ops listed).contains i && kp md ops rest (listed.setIfInBounds i true)
 | (i,3)::rest,listed=>Region.free md ops listed i && (Region.ready md ops listed).contains i && kp md ops rest (listed.setIfInBounds i true)
 | (i,_+1)::rest,listed=>(Region.ready md ops listed == [i]) && kp md ops rest (listed.setIfInBounds i true)
def lD(e:List (Nat×Nat)):List Nat:=(e.filter fun p=>decide (2=p.2)).map (·.1)
def tt(md:Region.Mode)(ops:Array Oper)(e:List (Nat×Nat)):Bool:=
 Region.noSelect ops && (e.length == ops.size) && (e.all fun p=>decide (p.2≤3)) && (e.all fun p=>decide (p.2=1∨p.2=2∨p.2=3) || (lD e).all fun j=>zX md ops ops.size j p.1) && kp md ops e (Array.replicate ops.size false)
theorem hJ(t:∀a b c,R a b→R b c→R a c)(l:∀a,R a a)(q:∀(j:Nat) (o:Oper) cs b,ops[j]?=some o→o.op≠.select cs b)
  (aU:∀c a d v w,Q (.panic c) (a.put d v) w→Q (.panic c) a w) :
  ∀(e:List (Nat×Nat)) (listed:Array Bool) (a:Act) (w:World),iP md ops listed→kp md ops e listed=true→
   (∀p∈e,p.2=0→∀j,T j=false→∃f,zX md ops f j p.1=true)→(∀p∈e,2=p.2→T p.1=false)→(∀p∈e,p.2≤3)→
   bJ P ops Q R e a w→jd P md ops Q R T e.length listed a w
 | [],listed,a,w,_,aT,_,_,_,h=>⟨by simpa [kp] using aT,h⟩
 | (i,0)::rest,listed,a,w,inv,aT,h0,J,aS,h=>by
  obtain⟨o,v,aJ,a3,h⟩:=h;simp only[kp,Bool.and_eq_true] at aT;have aX:i∈Region.ready md ops listed:=by simpa using aT.1.2
  exact gY (U:=R) t l l aJ q (fun c a w=>aU c a _ _ w) (.inr (h0 (i,0) (by simp) rfl)) rest.length listed a w inv (Region.free_spec aJ aT.1.1) aX a3
   (hJ t l q aU rest _ _ _ (inv.set aX) aT.2 (fun p hp=>h0 p (by simp[hp])) (fun p hp=>J p (by simp[hp])) (fun p hp=>aS p (by simp[hp])) h)
 | (i,3)::rest,listed,a,w,inv,aT,h0,J,aS,h=>by
  obtain⟨o,v,aJ,a3,h⟩:=h;simp only[kp,Bool.and_eq_true] at aT;have aX:i∈Region.ready md ops listed:=by simpa using aT.1.2
  exact gY (U:=fun _ _=>True) (fun _ _ _ _ _=>trivial) l (fun _=>trivial) aJ q (fun c a w=>aU c a _ _ w) (.inl fun _ _=>trivial) rest.length listed a w inv (Region.free_spec aJ aT.1.1) aX a3
   (hJ t l q aU rest _ _ _ (inv.set aX) aT.2 (fun p hp=>h0 p (by simp[hp])) (fun p hp=>J p (by simp[hp])) (fun p hp=>aS p (by simp[hp])) h)
 | (i,1)::rest,listed,a,w,inv,aT,h0,J,aS,h=>by
  obtain⟨o,aJ,h⟩:=h;simp only[kp,Bool.and_eq_true,beq_iff_eq] at aT;have aX:i∈Region.ready md ops listed:=by rw[aT.1];simp
  refine⟨fun h0=>(by rw[h0] at aX;cases aX),fun j ba=>?_⟩;rw[aT.1] at ba;have G:j=i:=by simpa using ba
  subst G;have g:=h (fun I ab=>(T j=true→R w ab)∧jd P md ops Q R T rest.length (listed.setIfInBounds j true) I ab) fun I ab b6 hp=>
   ⟨fun aR=>b6 rfl,hJ t l q aU rest _ _ _ (inv.set aX) aT.2 (fun p hp=>h0 p (by simp[hp])) (fun p hp=>J p (by simp[hp])) (fun p hp=>aS p (by simp[hp])) hp⟩
  unfold Go.wpOp;simp only[aJ];split
  ·rename_i hw;rw[if_pos hw] at g;exact .inl g
  ·rename_i hw;rw[if_neg hw] at g
   exact g
 | (i,2)::rest,listed,a,w,inv,aT,h0,J,aS,h=>by
  obtain⟨o,aJ,h⟩:=h;simp only[kp,Bool.and_eq_true,beq_iff_eq] at aT;have aX:i∈Region.ready md ops listed:=by rw[aT.1];simp
  refine⟨fun h0=>(by rw[h0] at aX;cases aX),fun j ba=>?_⟩;rw[aT.1] at ba;have G:j=i:=by simpa using ba
  subst G;have m:T j=false:=J (j,2) (by simp) rfl;have g:=h (fun I ab=>(T j=true→R w ab)∧jd P md ops Q R T rest.length (listed.setIfInBounds j true) I ab) fun I ab _ hp=>
   ⟨fun aR=>(by rw[m] at aR;cases aR),hJ t l q aU rest _ _ _ (inv.set aX) aT.2 (fun p hp=>h0 p (by simp[hp])) (fun p hp=>J p (by simp[hp])) (fun p hp=>aS p (by simp[hp])) hp⟩
  unfold Go.wpOp;simp only[aJ];split
  ·rename_i hw;rw[if_pos hw] at g;exact .inl g
  ·rename_i hw;rw[if_neg hw] at g
   exact g
 | (i,k+4)::rest,listed,a,w,inv,aT,h0,J,aS,h=>absurd (aS (i,k+4) (by simp)) (by simp)
theorem jM(R:World→World→Prop)(e:List (Nat×Nat)){id:Nat}{a:Act}{w:World}(hm:P.follows .mixedOrders=true)(aT:tt .any ops e=true)
  (l:∀a,R a a) (t:∀a b c,R a b→R b c→R a c) (aU:∀c a d v w,Q (.panic c) (a.put d v) w→Q (.panic c) a w)
  (h:bJ P ops Q R e a w.drew):(Code.region id ops true).wp P Q a w:=by
 simp only[tt,Bool.and_eq_true,beq_iff_eq] at aT;obtain⟨⟨⟨⟨hs,hl⟩,aS⟩,ht⟩,hp⟩:=aT;refine wp_region_any hm (kS (R:=R) (T:=fun j=>!(lD e).contains j) _ _ _ _ ?_);rw[←hl];refine hJ t l (Region.noSelect_spec hs) aU e _ a _ (fun j g _ ba=>?_) (by rw[hl];exact hp) (fun p gV m j ba=>?_) (fun p gV n=>?_) (fun p gV=>?_) h
 ·rw[getD_replicate_false] at ba;cases ba
 ·have ac:=List.all_eq_true.1 ht p gV;rw[m] at ac;have f:j∈lD e:=by simpa using ba
  have J:((lD e).all fun j=>zX .any ops ops.size j p.1)=true:=by simpa using ac
  exact⟨_,List.all_eq_true.1 J j f⟩
 ·have:p.1∈lD e:=List.mem_map.2 ⟨p,List.mem_filter.2 ⟨gV,by simpa using n⟩,rfl⟩;simpa using this
 ·exact List.all_eq_true.1 aS p gV |> of_decide_eq_true
theorem bm{i:Nat}{o:Oper}{v:Value}{rest:List (Nat×Nat)}{a:Act}{w:World}(aJ:ops[i]?=some o)(hw:Region.wanted o (yielded ops a.tmps)=true)
  (bC:∀V,R w V→(execOp a.eval o).run P V=.ok (.value v) V) (h:bJ P ops Q R rest (a.put o.dst v) w):bJ P ops Q R ((i,0)::rest) a w:=
 ⟨o,v,aJ,.inl ⟨hw,bC⟩,h⟩
theorem g7{i:Nat}{o:Oper}{rest:List (Nat×Nat)}{a:Act}{w:World}(aJ:ops[i]?=some o)(hw:Region.wanted o (yielded ops a.tmps)=false)
  (h:bJ P ops Q R rest (a.put o.dst undef) w):bJ P ops Q R ((i,0)::rest) a w:=
 ⟨o,undef,aJ,.inr ⟨hw,rfl⟩,h⟩
theorem bj{i:Nat}{o:Oper}{v:Value}{rest:List (Nat×Nat)}{a:Act}{w:World}(aJ:ops[i]?=some o)(hw:Region.wanted o (yielded ops a.tmps)=true)
  (bC:∀V,(execOp a.eval o).run P V=.ok (.value v) V) (h:bJ P ops Q R rest (a.put o.dst v) w):bJ P ops Q R ((i,3)::rest) a w:=
 ⟨o,v,aJ,.inl ⟨hw,fun V _=>bC V⟩,h⟩
theorem cY{i:Nat}{o:Oper}{rest:List (Nat×Nat)}{a:Act}{w:World}(aJ:ops[i]?=some o)(hw:Region.wanted o (yielded ops a.tmps)=false)
  (h:bJ P ops Q R rest (a.put o.dst undef) w):bJ P ops Q R ((i,3)::rest) a w:=
 ⟨o,undef,aJ,.inr ⟨hw,rfl⟩,h⟩
theorem aA{i:Nat}{o:Oper}{rest:List (Nat×Nat)}{a:Act}{w:World}(aJ:ops[i]?=some o)
  (h:∀K:Act→World→Prop,(∀I ab,R w ab→bJ P ops Q R rest I ab→K I ab)→if Region.wanted o (yielded ops a.tmps)=true then o.wp P a w K Q else K (a.put o.dst undef) w) :
  bJ P ops Q R ((i,1)::rest) a w:=
 ⟨o,aJ,fun K hK=>h K fun I ab b6 hp=>hK I ab (fun _=>b6) hp⟩
theorem ax{i:Nat}{o:Oper}{rest:List (Nat×Nat)}{a:Act}{w:World}(aJ:ops[i]?=some o)
  (h:∀K:Act→World→Prop,(∀I ab,bJ P ops Q R rest I ab→K I ab)→if Region.wanted o (yielded ops a.tmps)=true then o.wp P a w K Q else K (a.put o.dst undef) w) :
  bJ P ops Q R ((i,2)::rest) a w:=
 ⟨o,aJ,fun K hK=>h K fun I ab hp=>hK I ab (fun h=>absurd h (by decide)) hp⟩
theorem aD{a:Act}{w:World}(h:Q .normal a w):bJ P ops Q R [] a w:=h
end
inductive PT where
 | stop
 | free (i:Nat) (rest:PT)
 | held (i:Nat) (rest:PT)
 | pick (is:List Nat) (f:Nat→PT)
section
variable {P:Program} {ops:Array Oper} {Q:Exit→Act→World→Prop} {md:Region.Mode} {R:World→World→Prop}
def cN(P:Program)(ops:Array Oper)(Q:Exit→Act→World→Prop)(R:World→World→Prop)(tails:List Nat):PT→Act→World→Prop
 | .stop,a,w=>Q .normal a w
 | .free i rest,a,w=>∃o v,ops[i]?=some o∧YieldsIf P ops (fun _=>True) o v a∧cN P ops Q R tails rest (a.put o.dst v) w
 | .held i rest,a,w=>∃o v,ops[i]?=some o∧YieldsIf P ops (R w) o v a∧cN P ops Q R tails rest (a.put o.dst v) w
 | .pick is f,a,w=>∀i∈is,∃o,ops[i]?=some o∧∀K:Act→World→Prop,(∀I ab,(tails.contains i=false→R w ab)→cN P ops Q R tails (f i) I ab→K I ab)→
   (if Region.wanted o (yielded ops a.tmps)=true then o.wp P a w K Q else K (a.put o.dst undef) w)
def lE(md:Region.Mode)(ops:Array Oper):PT→Nat→Array Bool→Bool
 | .stop,n,listed=>n == 0 && (Region.ready md ops listed).isEmpty
 | .free i rest,n,listed=>decide (0<n) && (Region.free md ops listed i && (Region.ready md ops listed).contains i && lE md ops rest (n - 1) (listed.setIfInBounds i true))
 | .held i rest,n,listed=>decide (0<n) && (Region.free md ops listed i && (Region.ready md ops listed).contains i && lE md ops rest (n - 1) (listed.setIfInBounds i true))
 | .pick is f,n,listed=>decide (0<n) && (!is.isEmpty && (Region.ready md ops listed == is) && is.all fun i=>lE md ops (f i) (n - 1) (listed.setIfInBounds i true))
def PT.mv:PT→List Nat
 | .stop=>[]
 | .free _ rest=>rest.mv
 | .held i rest=>i::rest.mv
 | .pick is f=>is.flatMap fun i=>(f i).mv
def tN(md:Region.Mode)(ops:Array Oper)(tails:List Nat)(p:PT):Bool:=
 Region.noSelect ops && (p.mv.all fun i=>tails.all fun j=>zX md ops ops.size j i) && lE md ops p ops.size (Array.replicate ops.size false)
theorem tR(tails:List Nat)(t:∀a b c,R a b→R b c→R a c)(l:∀a,R a a)(q:∀(j:Nat) (o:Oper) cs b,ops[j]?=some o→o.op≠.select cs b)
  (aU:∀c a d v w,Q (.panic c) (a.put d v) w→Q (.panic c) a w) :
  ∀(p:PT) (n:Nat) (listed:Array Bool) (a:Act) (w:World),iP md ops listed→lE md ops p n listed=true→
   (∀i∈p.mv,∀j∈tails,∃f,zX md ops f j i=true)→cN P ops Q R tails p a w→jd P md ops Q R (fun j=>!tails.contains j) n listed a w:=by
 intro p
 induction p with
 | stop=>
  intro n listed a w _ aT _ h;simp only[lE,Bool.and_eq_true,beq_iff_eq] at aT;obtain⟨rfl,aT⟩:=aT
  exact⟨by simpa using aT,h⟩
 | free i rest aa=>
  intro n listed a w inv aT aj h;obtain⟨o,v,aJ,a3,h⟩:=h;simp only[lE,Bool.and_eq_true,decide_eq_true_eq] at aT;obtain⟨hn,⟨aw,hc⟩,aT⟩:=aT;obtain⟨m,rfl⟩:∃m,n=m+1:=⟨n - 1,by omega⟩
  have aX:i∈Region.ready md ops listed:=by simpa using hc
  exact gY (U:=fun _ _=>True) (fun _ _ _ _ _=>trivial) l (fun _=>trivial) aJ q (fun c a w=>aU c a _ _ w) (.inl fun _ _=>trivial) m listed a w inv (Region.free_spec aJ aw) aX a3
   (aa m _ _ _ (inv.set aX) aT aj h)
 | held i rest aa=>
  intro n listed a w inv aT aj h;obtain⟨o,v,aJ,a3,h⟩:=h;simp only[lE,Bool.and_eq_true,decide_eq_true_eq] at aT;obtain⟨hn,⟨aw,hc⟩,aT⟩:=aT;obtain⟨m,rfl⟩:∃m,n=m+1:=⟨n - 1,by omega⟩
  have aX:i∈Region.ready md ops listed:=by simpa using hc
  refine gY (U:=R) t l l aJ q (fun c a w=>aU c a _ _ w) (.inr fun j ba=>aj i (by simp[PT.mv]) j (by simpa using ba)) m listed a w inv (Region.free_spec aJ aw) aX a3
   (aa m _ _ _ (inv.set aX) aT (fun i aJ=>aj i (by simp[PT.mv,aJ])) h)
 | pick is f aa=>
  intro n listed a w inv aT aj h;simp only[lE,Bool.and_eq_true,decide_eq_true_eq,beq_iff_eq] at aT;obtain⟨hn,⟨he,aX⟩,aT⟩:=aT;obtain⟨m,rfl⟩:∃m,n=m+1:=⟨n - 1,by omega⟩
  by_cases a2:is=[]
  ·subst a2;simp at he
  ·refine⟨fun h0=>absurd (by rw[←aX];exact h0) a2,fun j ba=>?_⟩;have e:=ba;rw[aX] at ba;obtain⟨o,aJ,h⟩:=h j ba;have g:=h (fun I ab=>((fun j=>!tails.contains j) j=true→R w ab)∧jd P md ops Q R (fun j=>!tails.contains j) m (listed.setIfInBounds j true) I ab) fun I ab b6 hp=>
    ⟨fun aR=>b6 (by simpa using aR),aa j m _ _ _ (inv.set e) (by simpa using List.all_eq_true.1 aT j ba) (fun i aJ=>aj i (by simp only[PT.mv,List.mem_flatMap];exact⟨j,ba,aJ⟩)) hp⟩
   unfold Go.wpOp;simp only[aJ];split
   ·rename_i hw;rw[if_pos hw] at g;exact .inl g
   ·rename_i hw;rw[if_neg hw] at g;exact g
theorem oO(R:World→World→Prop)(tails:List Nat)(p:PT){id:Nat}{a:Act}{w:World}(hm:P.follows .mixedOrders=true)(aT:tN .any ops tails p=true)
  (l:∀a,R a a) (t:∀a b c,R a b→R b c→R a c) (aU:∀c a d v w,Q (.panic c) (a.put d v) w→Q (.panic c) a w)
  (h:cN P ops Q R tails p a w.drew):(Code.region id ops true).wp P Q a w:=by
 simp only[tN,Bool.and_eq_true] at aT;obtain⟨⟨hs,aV⟩,hp⟩:=aT;refine wp_region_any hm (kS (R:=R) (T:=fun j=>!tails.contains j) _ _ _ _ ?_);refine tR tails t l (Region.noSelect_spec hs) aU p ops.size _ a _ (fun j g _ ba=>?_) hp (fun i aJ j ba=>?_) h
 ·rw[getD_replicate_false] at ba;cases ba
 ·have ac:=List.all_eq_true.1 aV i aJ;exact⟨_,List.all_eq_true.1 ac j ba⟩
variable {tails:List Nat}
theorem bx{i:Nat}{o:Oper}{v:Value}{rest:PT}{a:Act}{w:World}(aJ:ops[i]?=some o)(hw:Region.wanted o (yielded ops a.tmps)=true)
  (bC:∀V,R w V→(execOp a.eval o).run P V=.ok (.value v) V) (h:cN P ops Q R tails rest (a.put o.dst v) w):cN P ops Q R tails (.held i rest) a w:=
 ⟨o,v,aJ,.inl ⟨hw,bC⟩,h⟩
theorem kf{i:Nat}{o:Oper}{v:Value}{rest:PT}{a:Act}{w:World}(aJ:ops[i]?=some o)(hw:Region.wanted o (yielded ops a.tmps)=true)
  (bC:∀V,(execOp a.eval o).run P V=.ok (.value v) V) (h:cN P ops Q R tails rest (a.put o.dst v) w):cN P ops Q R tails (.free i rest) a w:=
 ⟨o,v,aJ,.inl ⟨hw,fun V _=>bC V⟩,h⟩
def lL(P:Program)(ops:Array Oper)(Q:Exit→Act→World→Prop)(R:World→World→Prop)(tails:List Nat)(i:Nat)(p:PT)(a:Act)(w:World):Prop:=
 ∃o,ops[i]?=some o∧∀K:Act→World→Prop,(∀I ab,(tails.contains i=false→R w ab)→cN P ops Q R tails p I ab→K I ab)→
   (if Region.wanted o (yielded ops a.tmps)=true then o.wp P a w K Q else K (a.put o.dst undef) w)
theorem az{i:Nat}{o:Oper}{p:PT}{a:Act}{w:World}(aJ:ops[i]?=some o)
  (h:∀K:Act→World→Prop,(∀I ab,R w ab→cN P ops Q R tails p I ab→K I ab)→if Region.wanted o (yielded ops a.tmps)=true then o.wp P a w K Q else K (a.put o.dst undef) w)
  (aR:tails.contains i=false):lL P ops Q R tails i p a w:=⟨o,aJ,fun K hK=>h K fun I ab b6=>hK I ab fun _=>b6⟩
theorem aY{i:Nat}{o:Oper}{p:PT}{a:Act}{w:World}(aJ:ops[i]?=some o)
  (h:∀K:Act→World→Prop,(∀I ab,cN P ops Q R tails p I ab→K I ab)→if Region.wanted o (yielded ops a.tmps)=true then o.wp P a w K Q else K (a.put o.dst undef) w)
  (aR:tails.contains i=true):lL P ops Q R tails i p a w:=⟨o,aJ,fun K hK=>h K fun I ab hp=>hK I ab (fun h=>by rw[aR] at h;cases h) hp⟩
theorem ak{i:Nat}{f:Nat→PT}{a:Act}{w:World}(h:lL P ops Q R tails i (f i) a w):cN P ops Q R tails (.pick [i] f) a w:=fun j ba=>by
 have:j=i:=by simpa using ba
 subst this;exact h
theorem aR{i j:Nat}{f:Nat→PT}{a:Act}{w:World}(h:lL P ops Q R tails i (f i) a w)(J:lL P ops Q R tails j (f j) a w):cN P ops Q R tails (.pick [i,j] f) a w:=fun k ap=>by
 simp only[List.mem_cons,List.not_mem_nil,or_false] at ap;rcases ap with rfl|rfl
 ·exact h
 ·exact J
theorem bU{a:Act}{w:World}(h:Q .normal a w):cN P ops Q R tails .stop a w:=h
theorem iL{rest:PT}{aa:Nat→Act}{C:Nat→World→Prop}{G:Prop}(h:(∀g V,C g V→cN P ops Q R tails rest (aa g) V)→G)(key:∀g V,C g V→cN P ops Q R tails rest (aa g) V):G:=h key
end
theorem ae{p:Prop}(h:p):GU p:=h
theorem AF{a b:Int}{k:IntKind}(h:a=b):Value.int k a=Value.int k b:=by rw[h]
theorem ret_int{a b:Int}{k:IntKind}(h:a=b):Ending.returned (.int k a)=.returned (.int k b):=by rw[h]
theorem ret_bool{a b:Bool}(h:a=b):Ending.returned (.bool a)=.returned (.bool b):=by rw[h]
theorem bo{α:Type}{l:List α}{k:Nat}{x:α}(h:l[k]?=some x):l.take (k+1)=l.take k++[x]:=by
 rw[List.take_add_one,h];rfl
theorem B8(x y:Int):(if y > x then y else x)=max x y:=by
 by_cases h:x≤y<;>simp[Int.max_def,h]<;>omega
theorem B9(x y:Int):(if y<x then y else x)=min x y:=by
 by_cases h:x≤y<;>simp[Int.min_def,h]<;>omega
theorem fv(P:Program)(w:World)(a:Array TypeId)(t:TypeId)(k F:IntKind)(x y:Int):(Builtin.max_ a t #[.int k x,.int F y]).run P w=.ok (.int k (max x y)) w:=by
 rw[run_max_int2,B8]
theorem fw(P:Program)(w:World)(a:Array TypeId)(t:TypeId)(k F:IntKind)(x y:Int):(Builtin.min_ a t #[.int k x,.int F y]).run P w=.ok (.int k (min x y)) w:=by
 rw[run_min_int2,B9]
theorem dq{B:Nat}{a w:World}(h:Below B a w)(n:Nat):Below B a (w.drewN n):=⟨h.os,h.tape,h.output,h.size,h.block⟩
def cG{α:Type}(E:World→Nat→α→List Value→Prop)(sz:Nat)(w:World)(B:Nat)(A:GR)(n:Nat)(l:List α):Prop:=
 l.length=n∧(0<n→∃b o,A=some ⟨b,o,none⟩∧b<B∧∀k x,l[k]?=some x→∃cs:List Value,E w B x cs∧cs.length=sz∧∀j v,cs[j]?=some v→w.cell? ⟨b,o+k*sz+j,none⟩=some v)
section
variable {α:Type} {E:World→Nat→α→List Value→Prop} {sz:Nat} {w ab:World} {B q n:Nat} {A:GR} {l:List α}
theorem cG.bu(A:GR):cG E sz w B A 0 ([]:List α):=⟨rfl,fun h=>absurd h (by omega)⟩
theorem cG.ao(h:cG E sz w B A n l)(O:Below B w ab)(av:∀x cs,E w B x cs→E ab B x cs):cG E sz ab B A n l:=by
 refine⟨h.1,fun hn=>?_⟩;obtain⟨b,o,bb,U,hc⟩:=h.2 hn;refine⟨b,o,bb,U,fun k x hx=>?_⟩;obtain⟨cs,he,hl,ba⟩:=hc k x hx;exact⟨cs,av _ _ he,hl,fun j v bC=>(O.cell (p:=⟨b,_,none⟩) U).trans (ba j v bC)⟩
theorem cG.more(h:cG E sz w B A n l)(aT:B≤q)(av:∀x cs,E w B x cs→E w q x cs):cG E sz w q A n l:=by
 refine⟨h.1,fun hn=>?_⟩;obtain⟨b,o,bb,U,hc⟩:=h.2 hn;refine⟨b,o,bb,by omega,fun k x hx=>?_⟩;obtain⟨cs,he,hl,ba⟩:=hc k x hx;exact⟨cs,av _ _ he,hl,ba⟩
end
def EF{α:Type}(f:α→List Value):World→Nat→α→List Value→Prop:=fun _ _ x cs=>cs=f x
section
variable {α:Type} {f:α→List Value} {sz:Nat} {w ab:World} {B q n:Nat} {A:GR} {l:List α}
theorem cG.d9(h:cG (EF f) sz w B A n l)(O:Below B w ab):cG (EF f) sz ab B A n l:=h.ao O fun _ _ h=>h
theorem cG.E4(h:cG (EF f) sz w B A n l)(aT:B≤q):cG (EF f) sz w q A n l:=h.more aT fun _ _ h=>h
theorem cG.cZ(h:cG (EF f) sz w B A n l)(O:Below B w ab)(aT:B≤q):cG (EF f) sz ab q A n l:=(h.d9 O).E4 aT
theorem cG.EU(h:cG (EF f) sz w B A n l){k:Nat}(ap:k<n) :
  ∃b o x,A=some ⟨b,o,none⟩∧b<B∧l[k]?=some x∧(f x).length=sz∧∀j v,(f x)[j]?=some v→w.cell? ⟨b,o+k*sz+j,none⟩=some v:=by
 obtain⟨b,o,bb,O,hc⟩:=h.2 (by omega);have hm:l[k]?=some (l[k]'(by have:=h.1;omega)):=List.getElem?_eq_getElem _;obtain⟨cs,he,hl,ba⟩:=hc k _ hm;rw[EF] at he;subst he;exact⟨b,o,_,bb,O,hm,hl,ba⟩
theorem cG.some_(h:cG (EF f) sz w B A n l)(ap:0<n):∃b o,A=some ⟨b,o,none⟩∧b<B:=by
 obtain⟨b,o,bb,O,_⟩:=h.2 ap;exact⟨b,o,bb,O⟩
end
theorem eT{α:Type}(f:α→List Value)(sz:Nat):∀(l:List α),(∀x∈l,(f x).length=sz)→∀k x,l[k]?=some x→∀j,j<sz→(l.flatMap f)[k*sz+j]?=(f x)[j]?
 | [],_,k,x,h,_,_=>by simp at h
 | a::l,hs,0,x,h,j,ba=>by
  have aV:=hs a (by simp);simp only[List.getElem?_cons_zero,Option.some.injEq] at h;subst h;simp only[List.flatMap_cons,Nat.zero_mul,Nat.zero_add]
  rw[List.getElem?_append_left (by omega)]
 | a::l,hs,k+1,x,h,j,ba=>by
  have aV:=hs a (by simp);simp only[List.getElem?_cons_succ] at h;have aa:=eT f sz l (fun y a3=>hs y (by simp[a3])) k x h j ba;simp only[List.flatMap_cons];rw[List.getElem?_append_right (by rw[aV,Nat.succ_mul];omega),aV,←aa];congr 1
  rw[Nat.succ_mul];omega
theorem ft{α:Type}(f:α→List Value)(sz:Nat)(l:List α)(hs:∀x∈l,(f x).length=sz):(l.flatMap f).length=l.length*sz:=by
 induction l with
 | nil=>simp
 | cons a l aa=>
  rw[List.flatMap_cons,List.length_append,hs a (by simp),aa (fun x hx=>hs x (by simp[hx])),List.length_cons,Nat.succ_mul];omega
theorem bT{w:World}{base:Nat}{e:TypeId}{sz:Nat}{v:Value}{n:Nat}{xs:List Value}(h:w.ownsRow base e sz v n xs) :
  ∃A c,v=.slice A n c∧n≤c∧c≤maxLen∧(A=none→n=0∧c=0)∧∀a,A=some a→∃g,a=⟨g,0,none⟩∧base≤g∧g<w.heap.size:=by
 rcases h.2 with⟨rfl,rfl⟩|⟨g,cap,cur,rfl,O,aM,hn,hc,_⟩
 ·exact⟨none,0,rfl,Nat.le_refl _,by simp,fun _=>⟨rfl,rfl⟩,fun _ h=>nomatch h⟩
 ·exact⟨_,_,rfl,hn,hc,(fun h=>nomatch h),fun a h=>(by injection h with h;exact⟨g,h.symm,O,(Array.getElem?_eq_some_iff.1 aM).1⟩)⟩
theorem lv{α:Type}{f:α→List Value}{w:World}{base:Nat}{e:TypeId}{sz:Nat}{A:GR}{n c:Nat}{l:List α}
  (h:w.ownsRow base e sz (.slice A n c) n (l.flatMap f)) (hs:∀x∈l,(f x).length=sz) (hl:l.length=n):cG (EF f) sz w w.heap.size A n l:=by
 refine⟨hl,fun hn=>?_⟩;rcases h.2 with⟨bC,h0⟩|⟨g,cap,cur,bC,_,aM,aL,_,T,a⟩
 ·omega
 ·injection bC with bb _ _;subst bb;refine⟨g,0,rfl,(Array.getElem?_eq_some_iff.1 aM).1,fun k x hx=>⟨f x,rfl,hs x (List.mem_of_getElem? hx),fun j v ba=>?_⟩⟩;have u:j<sz:=by
   have:=hs x (List.mem_of_getElem? hx);have:=(List.getElem?_eq_some_iff.1 ba).1;omega
  have aY:k<l.length:=(List.getElem?_eq_some_iff.1 hx).1;have b2:=eT f sz l hs k x hx j u;rw[ba,←a,List.getElem?_take] at b2;split at b2
  ·rw[cell_of_row w g _ cur e (0,0) aM,Nat.zero_add];simpa using b2
  ·cases b2
theorem vD{w ab:World}{base B:Nat}{e:TypeId}{sz:Nat}{v:Value}{n:Nat}{xs:List Value}(h:w.ownsRow base e sz v n xs)(O:Below B w ab)(aT:∀g,v.ownBlock=some g→g<B):ab.ownsRow base e sz v n xs:=by
 refine⟨h.1,?_⟩;rcases h.2 with J|⟨g,cap,cur,rfl,j,aM,rest⟩
 ·exact .inl J
 ·exact .inr ⟨g,cap,cur,rfl,j,(O.block g (aT g rfl)).trans aM,rest⟩
theorem cn{w ab:World}{base:Nat}{e:TypeId}{sz:Nat}{v:Value}{n:Nat}{xs:List Value}(h:w.ownsRow base e sz v n xs)(O:Below w.heap.size w ab):ab.ownsRow base e sz v n xs:=
 vD h O fun g aM=>(h.lt g aM).2
theorem j9{w:World}{base:Nat}{e:TypeId}{sz:Nat}{A:GR}{n c:Nat}{xs:List Value}(h:w.ownsRow base e sz (.slice A n c) n xs)(hn:0<n) :
  ∃g,A=some ⟨g,0,none⟩∧base≤g∧g<w.heap.size∧(∀j u,xs[j]?=some u→w.cell? ⟨g,j,none⟩=some u)∧(∀j,w.frozen? ⟨g,j,none⟩=false)∧
   ∀j u,j<n*sz→(w.setCell ⟨g,j,none⟩ u).ownsRow base e sz (.slice A n c) n (xs.set j u):=by
 rcases h.2 with⟨bC,h0⟩|⟨g,cap,cur,bC,O,aM,aL,v,T,a⟩
 ·omega
 ·injection bC with bb _ hc;subst bb hc;refine⟨g,rfl,O,(Array.getElem?_eq_some_iff.1 aM).1,fun j u hu=>?_,fun j=>?_,fun j u ba=>⟨by rw[List.length_set];exact h.1,.inr ⟨g,c,cur.setIfInBounds j u,rfl,O,?_,aL,v,by simpa using T,?_⟩⟩⟩
  ·rw[←a,List.getElem?_take] at hu;split at hu
   ·rw[cell_of_row w g j cur e (0,0) aM];simpa using hu
   ·cases hu
  ·simp[World.frozen?,aM]
  ·simp[World.setCell,Array.getElem?_modify,aM]
  ·rw[←a,Array.toList_setIfInBounds,List.take_set]
theorem iY{α:Type}(f:α→List Value)(sz:Nat):∀(l:List α),(∀x∈l,(f x).length=sz)→∀k x,l[k]?=some x→∀j u y,j<sz→(f x).set j u=f y→(l.flatMap f).set (k*sz+j) u=(l.set k y).flatMap f
 | [],_,k,x,h,_,_,_,_,_=>by simp at h
 | a::l,hs,0,x,h,j,u,y,ba,a3=>by
  have aV:=hs a (by simp);simp only[List.getElem?_cons_zero,Option.some.injEq] at h;subst h;simp only[List.flatMap_cons,Nat.zero_mul,Nat.zero_add,List.set_cons_zero]
  rw[List.set_append_left _ _ (by omega),a3]
 | a::l,hs,k+1,x,h,j,u,y,ba,a3=>by
  have aV:=hs a (by simp);simp only[List.getElem?_cons_succ] at h;have aa:=iY f sz l (fun y a3=>hs y (by simp[a3])) k x h j u y ba a3;simp only[List.flatMap_cons,List.set_cons_succ];rw[List.set_append_right _ _ (by rw[aV,Nat.succ_mul];omega),aV,←aa];congr 2
  rw[Nat.succ_mul];omega
theorem pI{P:Program}(w:World)(t e:TypeId)(a:GR)(n c L aG:Nat)(h:P.underlying t=some (.slice e)) :
  (binOp .eql t (.slice a n c) (.slice none L aG)).run P w=.ok (.bool a.isNone) w:=by
 have key:∀d:Nat,(Op.equalIn (d+1) t (.slice a n c) (.slice none L aG)).run P w=.ok a.isNone w:=fun d=>by
  rcases a with _|a<;>simp[Op.equalIn,run_underlying h]
 simp only[binOp];simp[Op.equal,Op.maxDepth,key 9999]
def Src(w:World)(sz:Nat)(A:GR)(m:Nat)(news:List Value):Prop:=
 news.length=m*sz∧(∀u∈news,u.oneCell'=true)∧(0<m→∃b o,A=some ⟨b,o,none⟩∧∀j u,news[j]?=some u→w.cell? ⟨b,o+j,none⟩=some u)
theorem Src.one{w:World}{b:Nat}{u:Value}(h:w.cell? ⟨b,0,none⟩=some u)(ac:u.oneCell'=true):Src w 1 (some ⟨b,0,none⟩) 1 [u]:=
 ⟨rfl,by simpa using ac,fun _=>⟨b,0,rfl,fun j v ba=>by
  cases j with
  | zero=>simp at ba;subst ba;exact h
  | succ j=>simp at ba⟩⟩
theorem Src.block{w:World}{g:Nat}{e:TypeId}{xs:Array Value}{sz:Nat}(aM:w.heap[g]?=some (.cells xs e (0,0)))(m:Nat)(hm:xs.size=m*sz)(ac:∀u∈xs.toList,u.oneCell'=true) :
  Src w sz (some ⟨g,0,none⟩) m xs.toList:=
 ⟨by simpa using hm,ac,fun _=>⟨g,0,rfl,fun j u ba=>by
  rw[Nat.zero_add,cell_of_row w g j xs e (0,0) aM];simpa using ba⟩⟩
theorem Src.ru{α:Type}{f:α→List Value}{sz:Nat}{w:World}{B n:Nat}{A:GR}{l:List α}(h:cG (EF f) sz w B A n l)(hs:∀x∈l,(f x).length=sz)(ac:∀x∈l,∀u∈f x,u.oneCell'=true)(bv:0<sz) :
  Src w sz A n (l.flatMap f):=by
 refine⟨by rw[ft f sz l hs,h.1],fun u hu=>?_,fun hn=>?_⟩
 ·obtain⟨x,hx,hu⟩:=List.mem_flatMap.1 hu;exact ac x hx u hu
 ·obtain⟨b,o,bb,_,hc⟩:=h.2 hn;refine⟨b,o,bb,fun j u ba=>?_⟩;have a5:=(List.getElem?_eq_some_iff.1 ba).1;rw[ft f sz l hs] at a5;have aY:j / sz<l.length:=by rw[Nat.div_lt_iff_lt_mul bv];exact a5
  have hx:l[j / sz]?=some (l[j / sz]'aY):=List.getElem?_eq_getElem aY;have d:=Nat.mod_lt j bv;have a:j / sz*sz+j % sz=j:=Nat.div_add_mod' j sz;have b2:=eT f sz l hs _ _ hx (j % sz) d;rw[a,ba] at b2;obtain⟨cs,he,_,c⟩:=hc _ _ hx;rw[EF] at he;subst he;have:=c _ _ b2.symm
  rwa [Nat.add_assoc,a] at this
def b0(P:Program)(t e:TypeId)(z:Value)(size bytes:Nat):Prop:=
 ∃i,P.underlying t=some (.slice e)∧P.info? e=some i∧i.zero=some z∧i.size=size∧i.bytes=bytes∧z.cells.size=size∧0<size
theorem b0.mk'{P:Program}{t e:TypeId}{z:Value}{size bytes:Nat}(ht:P.underlying t=some (.slice e))(aJ:(P.info? e).map (fun i=>(i.zero,i.size,i.bytes))=some (some z,size,bytes))(bv:z.cells.size=size)(h0:0<size):b0 P t e z size bytes:=by
 obtain⟨i,ac,J,aS,bo⟩:=info_parts aJ;exact⟨i,ht,ac,J,aS,bo,bv,h0⟩
section
variable {P:Program} (w:World)
theorem rK(base:Nat)(t ty e:TypeId)(i:TypeInfo)(size:Nat)(ht:P.underlying t=some (.slice e))(aJ:P.info? e=some i)
  (v:Value) (n:Nat) (xs:List Value) (I:w.ownsRow base e size v n xs) (c:Nat):(Builtin.append_ #[t,t] ty #[v,.slice none 0 c]).run P w=.ok v w:=by
 rcases I.2 with⟨rfl,rfl⟩|⟨g,cap,cur,rfl,_,_,aL,_⟩
 ·simp[Builtin.append_,run_underlying ht,sizeOf,typeInfo,aJ,Builtin.lenOf,Builtin.firstCells]
 ·simp[Builtin.append_,run_underlying ht,sizeOf,typeInfo,aJ,Builtin.lenOf,Builtin.firstCells,aL,storeCells]
theorem Cs{t e:TypeId}{z:Value}{size bytes:Nat}(bb:b0 P t e z size bytes)(base:Nat)(ty:TypeId)(v:Value)(n:Nat)(xs:List Value)(I:w.ownsRow base e size v n xs)
  (A:GR) (m c:Nat) (news:List Value) (hs:Src w size A m news) (r:(n+m)*bytes≤140737488355328) (H:n+m≤140737488355328) (C:base≤w.heap.size) (d:A=none→m=0) :
  ∃M ab,(Builtin.append_ #[t,t] ty #[v,.slice A m c]).run P w=.ok M ab∧ab.ownsRow base e size M (n+m) (xs++news)∧w.grownBy ab v.ownBlock∧
   (M.ownBlock=v.ownBlock∨M.ownBlock=some w.heap.size):=by
 obtain⟨i,ht,aJ,bv,g,U,cG,bN⟩:=bb;rcases A with _|a
 ·have hm:=d rfl;subst hm;have hn:news=[]:=List.eq_nil_of_length_eq_zero (by simpa using hs.1);subst hn;exact⟨v,w,rK w base t ty e i size ht aJ v n xs I c,by simpa using I,World.grownBy.refl w _,.inl rfl⟩
 ·have bP:∀j u,news[j]?=some u→w.cell? (a.add j)=some u:=by
   intro j u hu;rcases Nat.eq_zero_or_pos m with h0|h0
   ·subst h0;have hn:news=[]:=List.eq_nil_of_length_eq_zero (by simpa using hs.1);subst hn;simp at hu
   ·obtain⟨b,o,h,hc⟩:=hs.2.2 h0;injection h with h;subst h;have:=hc j u hu;by_cases ba:j=0
    ·subst ba;simpa [Addr.add] using this
    ·simpa [Addr.add,ba] using this
  obtain⟨M,ab,k,J,aS,_,cr⟩:=run_append_own_at (P:=P) w base t ty e i z size bytes ht aJ bv g U cG bN v n xs I a m c news hs.1 bP hs.2.1 (by simp only[maxLen];omega) r C;exact⟨M,ab,k,J,aS,cr⟩
theorem je{o:Oper}{a:Act}{K:Act→World→Prop}{Q:Exit→Act→World→Prop}{t e:TypeId}{z:Value}{size bytes:Nat}(bb:b0 P t e z size bytes)(s x:Operand)
  (bi:o.op=.call {callee:=.builtin .append,args:=#[s,x],argTypes:=#[t,t]})
  (base:Nat) (v:Value) (n:Nat) (xs:List Value) (hs:a.eval s=v) (I:w.ownsRow base e size v n xs)
  (A:GR) (m c:Nat) (news:List Value) (hx:a.eval x=.slice A m c) (aX:Src w size A m news)
  (r:(n+m)*bytes≤140737488355328) (H:n+m≤140737488355328) (C:base≤w.heap.size) (d:A=none→m=0)
  (h:∀M ab,ab.ownsRow base e size M (n+m) (xs++news)→w.grownBy ab v.ownBlock→(M.ownBlock=v.ownBlock∨M.ownBlock=some w.heap.size)→K (a.put o.dst M) ab):o.wp P a w K Q:=by
 obtain⟨M,ab,k,J,aS,bo⟩:=Cs (P:=P) w bb base o.type v n xs I A m c news aX r H C d;unfold Oper.wp execOp;simp only[bi,resolve,invoke,builtin,Sem.run_bind,Sem.run_pure,Result.andThen_ok,List.map_toArray,List.map_cons,List.map_nil,hs,hx,k];exact h M ab J aS bo
theorem oL{ops:Array Oper}{rest:List Oper}{o:Oper}{a:Act}{Q:Exit→Act→World→Prop}{t e:TypeId}{z:Value}{size bytes:Nat}(bb:b0 P t e z size bytes)(i:o.guard=none)(s x:Operand)
  (bi:o.op=.call {callee:=.builtin .append,args:=#[s,x],argTypes:=#[t,t]})
  (base:Nat) (v:Value) (n:Nat) (xs:List Value) (hs:a.eval s=v) (I:w.ownsRow base e size v n xs)
  (A:GR) (m c:Nat) (news:List Value) (hx:a.eval x=.slice A m c) (aX:Src w size A m news)
  (r:(n+m)*bytes≤140737488355328) (H:n+m≤140737488355328) (C:base≤w.heap.size) (d:A=none→m=0)
  (h:∀M ab,ab.ownsRow base e size M (n+m) (xs++news)→w.grownBy ab v.ownBlock→(M.ownBlock=v.ownBlock∨M.ownBlock=some w.heap.size)→wpList P ops Q rest (a.put o.dst M) ab):wpList P ops Q (o::rest) a w:=
 wpList_plain i fun _ hK=>je w bb s x bi base v n xs hs I A m c news hx aX r H C d fun M ab J aS bo=>hK _ _ (h M ab J aS bo)
end
theorem dM{P:Program}(S:World){ops:Array Oper}{rest:List Oper}{o:Oper}{a:Act}{Q:Exit→Act→World→Prop}{t e:TypeId}{z:Value}{size bytes:Nat}(bb:b0 P t e z size bytes)(i:o.guard=none)(s x:Operand)
  (bi:o.op=.call {callee:=.builtin .append,args:=#[s,x],argTypes:=#[t,t]})
  (base:Nat) (v:Value) (n:Nat) (xs:List Value) (cs:Array Value) (hs:a.eval s=v) (I:S.ownsRow base e size v n xs)
  (hx:a.eval x=.slice (some ⟨S.heap.size,0,none⟩) 1 1) (T:cs.size=size) (ac:∀u∈cs.toList,u.oneCell'=true)
  (r:(n+1)*bytes≤140737488355328) (H:n+1≤140737488355328) (C:base≤S.heap.size)
  (h:∀M ab,ab.ownsRow base e size M (n+1) (xs++cs.toList)→S.grownBy ab v.ownBlock→(M.ownBlock=v.ownBlock∨M.ownBlock=some (S.heap.size+1))→wpList P ops Q rest (a.put o.dst M) ab):wpList P ops Q (o::rest) a (S.alloc (.cells cs e)):=by
 refine oL _ bb i s x bi base v n xs hs (I.alloc _) _ 1 1 cs.toList hx (Src.block (heap_alloc_new S _) 1 (by omega) ac) r H (by simp;omega) (fun h=>nomatch h) fun M ab J aS bo=>?_;refine h M ab J ⟨aS.os,aS.tape,aS.output,by have:=aS.size;simp at this;omega,fun k ap a2=>(aS.block k (by simp;omega) a2).trans (Below.heap_alloc S _ k ap)⟩ ?_;simpa using bo
theorem Src.on{w ab:World}{sz m:Nat}{A:GR}{news:List Value}(h:Src w sz A m news)(O:Below w.heap.size w ab):Src ab sz A m news:=by
 refine⟨h.1,h.2.1,fun hm=>?_⟩;obtain⟨b,o,bb,hc⟩:=h.2.2 hm;refine⟨b,o,bb,fun j u ba=>?_⟩;have c:=hc j u ba;exact(O.cell (p:=⟨b,o+j,none⟩) (World.block_lt_of_cell? w _ c)).trans c
theorem mJ{P:Program}(S:World){ops:Array Oper}{rest:List Oper}{o:Oper}{a:Act}{Q:Exit→Act→World→Prop}{t e:TypeId}{z:Value}{size bytes:Nat}(bb:b0 P t e z size bytes)(i:o.guard=none)(s x:Operand)
  (bi:o.op=.call {callee:=.builtin .append,args:=#[s,x],argTypes:=#[t,t]})
  (hs:a.eval s=.slice (some ⟨S.heap.size,0,none⟩) 0 0) (A:GR) (m c:Nat) (news:List Value) (hx:a.eval x=.slice A m c) (aX:Src S size A m news)
  (r:m*bytes≤140737488355328) (H:m≤140737488355328) (d:A=none→m=0)
  (h:∀az aG ab,ab.ownsRow S.heap.size e size (.slice az m aG) m news→Below S.heap.size S ab→wpList P ops Q rest (a.put o.dst (.slice az m aG)) ab):wpList P ops Q (o::rest) a (S.alloc (.cells #[] e)):=by
 have I:(S.alloc (.cells #[] e)).ownsRow S.heap.size e size (.slice (some ⟨S.heap.size,0,none⟩) 0 0) 0 []:=World.ownsRow_made S #[] 0 (Nat.le_refl _) (Nat.zero_le _) (by simp);refine oL _ bb i s x bi S.heap.size _ 0 [] hs I A m c news hx (aX.on ((Below.refl _ _).alloc (Nat.le_refl _) _)) (by rw[Nat.zero_add];exact r) (by omega) (by simp) d fun M ab J aS bo=>?_;simp only[Nat.zero_add,List.nil_append] at J;have O:Below S.heap.size S ab:=((Below.refl _ _).alloc (Nat.le_refl _) _).grown aS (by simp) (by simp[Value.ownBlock]);obtain⟨az,aG,rfl,_⟩:=bT J;exact h az aG ab J O
theorem gZ{B:Nat}{a w ab:World}{base:Nat}{e:TypeId}{sz:Nat}{v:Value}{n:Nat}{xs:List Value}(h:Below B a w)(I:w.ownsRow base e sz v n xs)(aM:w.grownBy ab v.ownBlock)(aT:B≤base)(r:B≤w.heap.size):Below B a ab:=
 h.grown aM r fun k ap=>Nat.le_trans aT (I.lt k ap).1
section
variable {P:Program} {t e:TypeId} {z:Value} {size bytes:Nat}
theorem run_mk(bb:b0 P t e z size bytes)(kl kc:IntKind)(n:Nat)(O:bytes*n≤281474976710656)(H:n≤281474976710656)(w:World) :
  (Instr.makeSlice t (.int kl (n:Int)) (.int kc (n:Int))).run P w=.ok (.slice (some ⟨w.heap.size,0,none⟩) n n) (w.alloc (.cells (madeCells z.cells (n*size)) e)):=by
 obtain⟨i,ht,aJ,bv,g,U,cG,bN⟩:=bb;have a:(i.bytes:Int)*(n:Int)≤281474976710656:=by
  have h:((i.bytes*n:Nat):Int)≤281474976710656:=by rw[U];omega
  rwa [Int.natCast_mul] at h
 have aX:=run_make (P:=P) w t e i z ht aJ bv kl kc n n (by omega) (by omega) a (by omega);simp only[Int.toNat_natCast] at aX;rw[aX,g]
theorem pz{α:Type}{f:α→List Value}{x:α}{zc:Array Value}{sz:Nat}(bv:zc.toList=f x)(hs:(f x).length=sz)(h0:0<sz)(n:Nat):(madeCells zc (n*sz)).toList=(List.replicate n x).flatMap f:=by
 have cG:zc.size=sz:=by rw[←Array.length_toList,bv,hs]
 apply List.ext_getElem?
 intro j;by_cases ba:j<n*sz
 ·have ap:j / sz<n:=by rw[Nat.div_lt_iff_lt_mul h0];exact ba
  have hm:=Nat.mod_lt j h0;have hx:(List.replicate n x)[j / sz]?=some x:=by rw[List.getElem?_replicate,if_pos ap]
  have:=eT f sz (List.replicate n x) (fun y a3=>by rw[(List.mem_replicate.1 a3).2];exact hs) _ _ hx _ hm;rw[Nat.div_add_mod'] at this;rw[this,←bv];have a5:j % zc.size<zc.size:=by rw[cG];exact hm
  simp only[madeCells,Array.getElem?_toList,Array.getElem?_map,Array.getElem?_range,ba,if_pos,Option.map_some];rw[←cG,getElem!_pos zc _ a5,Array.getElem?_eq_getElem a5]
 ·rw[List.getElem?_eq_none (by rw[Array.length_toList,size_madeCells];omega),List.getElem?_eq_none (by rw[ft f sz _ (fun y a3=>by rw[(List.mem_replicate.1 a3).2];exact hs),List.length_replicate];omega)]
theorem tp{α:Type}{f:α→List Value}{x:α}{zc:Array Value}{sz:Nat}(bv:zc.toList=f x)(hs:(f x).length=sz)(h0:0<sz)(n:Nat)(hn:n≤281474976710656){w:World}{base:Nat}(O:base≤w.heap.size) :
  (w.alloc (.cells (madeCells zc (n*sz)) e)).ownsRow base e sz (.slice (some ⟨w.heap.size,0,none⟩) n n) n ((List.replicate n x).flatMap f):=by
 rw[←pz bv hs h0 n];exact World.ownsRow_lit w _ n O (by unfold maxLen;omega) (size_madeCells _ _)
end
def dB(x:Int):List Value:=[.int .i64 x]
def mO(x:ByteArray):List Value:=[.string x]
theorem cG.int{w:World}{B n:Nat}{A:GR}{l:List Int}(h:cG (EF dB) 1 w B A n l){k:Nat}(ap:k<n) :
  ∃b o x,A=some ⟨b,o,none⟩∧b<B∧l[k]?=some x∧w.cell? ⟨b,o+k,none⟩=some (.int .i64 x):=by
 obtain⟨b,o,x,bb,O,hx,_,hc⟩:=h.EU ap;have:=hc 0 _ rfl;simp only[Nat.mul_one,Nat.add_zero] at this;exact⟨b,o,x,bb,O,hx,this⟩
theorem cG.str{w:World}{B n:Nat}{A:GR}{l:GS}(h:cG (EF mO) 1 w B A n l){k:Nat}(ap:k<n) :
  ∃b o x,A=some ⟨b,o,none⟩∧b<B∧l[k]?=some x∧w.cell? ⟨b,o+k,none⟩=some (.string x):=by
 obtain⟨b,o,x,bb,O,hx,_,hc⟩:=h.EU ap;have:=hc 0 _ rfl;simp only[Nat.mul_one,Nat.add_zero] at this;exact⟨b,o,x,bb,O,hx,this⟩
theorem q9(l:List Int):l.flatMap dB=l.map (Value.int .i64):=by
 induction l with
 | nil=>rfl
 | cons a l aa=>rw[List.flatMap_cons,aa];rfl
theorem oZ(l:List Int)(x:Int):(l++[x]).flatMap dB=l.flatMap dB++[.int .i64 x]:=by
 rw[List.flatMap_append];rfl
theorem AW(k:IntKind)(x:Int):∀u∈(#[Value.int k x]:Array Value).toList,u.oneCell'=true:=by
 intro u hu;simp at hu;subst hu;rfl
theorem n8(l:List Int):∀x∈l,(dB x).length=1:=fun _ _=>rfl
theorem row_slr{k:IntKind}{w:World}{a:GR}{len cap:Nat}{b:List Int}
  (h:(a=none∧len=0∧cap=0∧b=[])∨∃x,a=some x∧len≤cap∧cap≤maxLen∧b.length=cap∧(∀i,i<b.length→w.cell? (x.add i)=some (.int k (b.getD i 0)))∧∀n∈b,(Lit.int k n).wf=true) (ap:k=.i64) :
  cG (EF dB) 1 w w.heap.size a len (b.take len):=by
 subst ap;rcases h with⟨rfl,rfl,rfl,rfl⟩|⟨x,rfl,aM,_,bv,hc,_⟩
 ·exact cG.bu _
 ·refine⟨by simp;omega,fun hn=>?_⟩;have h0:=hc 0 (by omega);have hx:x.spot=none:=by
   have ac:w.cell? x=some (.int .i64 (b.getD 0 0)):=by simpa [Addr.add] using h0
   cases hs:x.spot with
   | none=>rfl
   | some s=>
    rw[World.cell?] at ac;split at ac
    ·rw[hs] at ac;simp at ac
    ·cases ac
  have R:=World.block_lt_of_cell? w _ h0;refine⟨x.block,x.off,by rw[←hx],by simpa [Addr.add] using R,fun j v ba=>⟨dB v,rfl,rfl,fun i u hu=>?_⟩⟩;have a5:=(List.getElem?_eq_some_iff.1 ba).1;rw[List.length_take] at a5;have c:=hc j (by omega);rw[List.getElem?_take] at ba;split at ba
  ·have bC:b.getD j 0=v:=by rw[List.getD_eq_getElem?_getD,ba];rfl
   rw[bC] at c;have aJ:i=0∧u=.int .i64 v:=by
    cases i with
    | zero=>simp[dB] at hu;exact⟨rfl,hu.symm⟩
    | succ i=>simp[dB] at hu
   obtain⟨rfl,rfl⟩:=aJ;have aV:x.add j=⟨x.block,x.off+j*1+0,none⟩:=by
    rw[Nat.mul_one,Nat.add_zero];unfold Addr.add;split
    ·rename_i cy;rw[cy,Nat.add_zero,←hx]
    ·rfl
   rw[aV] at c;exact c
  ·cases ba
theorem dj:b0 prog 22 3 (.int .i64 0) 1 8:=b0.mk' Tryz.underlying22 (by kernel_rfl) rfl (by omega)
inductive D where
 | i (n:Int)
 | b (x:Bool)
 | s (x:ByteArray)
 | st (l:List D)
 | sl (l:List D)
mutual
def D.rep(w:World)(P:Nat→Prop):D→List Value→Prop
 | .i n=>fun cs=>cs=[.int .i64 n]
 | .b x=>fun cs=>cs=[.bool x]
 | .s x=>fun cs=>cs=[.string x]
 | .st l=>fun cs=>D.aL w P l cs
 | .sl l=>fun cs=>∃A c,cs=[.slice A l.length c]∧l.length≤c∧(0<l.length→∃b o xs,A=some ⟨b,o,none⟩∧P b∧D.aL w P l xs∧∀j u,xs[j]?=some u→w.cell? ⟨b,o+j,none⟩=some u)
def D.aL(w:World)(P:Nat→Prop):List D→List Value→Prop
 | []=>fun cs=>cs=[]
 | d::l=>fun cs=>∃x y,cs=x++y∧D.rep w P d x∧D.aL w P l y
end
mutual
def D.sz:D→Nat
 | .i _=>1
 | .b _=>1
 | .s _=>1
 | .st l=>D.vM l
 | .sl _=>1
def D.vM:List D→Nat
 | []=>0
 | d::l=>D.sz d+D.vM l
end
mutual
theorem D.ka{w:World}{P:Nat→Prop}:∀(d:D) (cs:List Value),d.rep w P cs→cs.length=d.sz
 | .i n,cs,h=>by simp only[D.rep] at h;subst h;rfl
 | .b x,cs,h=>by simp only[D.rep] at h;subst h;rfl
 | .s x,cs,h=>by simp only[D.rep] at h;subst h;rfl
 | .st l,cs,h=>by simp only[D.rep] at h;simp only[D.sz];exact D.jJ l cs h
 | .sl l,cs,h=>by simp only[D.rep] at h;obtain⟨A,c,rfl,_⟩:=h;rfl
theorem D.jJ{w:World}{P:Nat→Prop}:∀(l:List D) (cs:List Value),D.aL w P l cs→cs.length=D.vM l
 | [],cs,h=>by simp only[D.aL] at h;subst h;rfl
 | d::l,cs,h=>by
  simp only[D.aL] at h;obtain⟨x,y,rfl,hx,a3⟩:=h;simp only[D.vM,List.length_append,D.ka d x hx,D.jJ l y a3]
end
mutual
theorem D.bg{w ab:World}{P:Nat→Prop}(ap:∀b,P b→ab.heap[b]?=w.heap[b]?):∀(d:D) (cs:List Value),d.rep w P cs→d.rep ab P cs
 | .i n,cs,h=>by simpa only[D.rep] using h
 | .b x,cs,h=>by simpa only[D.rep] using h
 | .s x,cs,h=>by simpa only[D.rep] using h
 | .st l,cs,h=>by simp only[D.rep] at h ⊢;exact D.cJ ap l cs h
 | .sl l,cs,h=>by
  simp only[D.rep] at h ⊢;obtain⟨A,c,T,hc,hn⟩:=h;refine⟨A,c,T,hc,fun h0=>?_⟩;obtain⟨b,o,xs,bb,O,aX,ba⟩:=hn h0;exact⟨b,o,xs,bb,O,D.cJ ap l xs aX,fun j u hu=>(World.cell?_of_block (w:=w) (ap b O)).trans (ba j u hu)⟩
theorem D.cJ{w ab:World}{P:Nat→Prop}(ap:∀b,P b→ab.heap[b]?=w.heap[b]?):∀(l:List D) (cs:List Value),D.aL w P l cs→D.aL ab P l cs
 | [],cs,h=>by simpa only[D.aL] using h
 | d::l,cs,h=>by
  simp only[D.aL] at h ⊢;obtain⟨x,y,rfl,hx,a3⟩:=h;exact⟨x,y,rfl,D.bg ap d x hx,D.cJ ap l y a3⟩
end
mutual
theorem D.aP{w:World}{P c8:Nat→Prop}(hp:∀b,P b→c8 b):∀(d:D) (cs:List Value),d.rep w P cs→d.rep w c8 cs
 | .i n,cs,h=>by simpa only[D.rep] using h
 | .b x,cs,h=>by simpa only[D.rep] using h
 | .s x,cs,h=>by simpa only[D.rep] using h
 | .st l,cs,h=>by simp only[D.rep] at h ⊢;exact D.cr hp l cs h
 | .sl l,cs,h=>by
  simp only[D.rep] at h ⊢;obtain⟨A,c,T,hc,hn⟩:=h;refine⟨A,c,T,hc,fun h0=>?_⟩;obtain⟨b,o,xs,bb,O,aX,ba⟩:=hn h0;exact⟨b,o,xs,bb,hp b O,D.cr hp l xs aX,ba⟩
theorem D.cr{w:World}{P c8:Nat→Prop}(hp:∀b,P b→c8 b):∀(l:List D) (cs:List Value),D.aL w P l cs→D.aL w c8 l cs
 | [],cs,h=>by simpa only[D.aL] using h
 | d::l,cs,h=>by
  simp only[D.aL] at h ⊢;obtain⟨x,y,rfl,hx,a3⟩:=h;exact⟨x,y,rfl,D.aP hp d x hx,D.cr hp l y a3⟩
end
mutual
theorem D.qw{w:World}{P:Nat→Prop}:∀(d:D) (cs:List Value),d.rep w P cs→∀u∈cs,u.oneCell'=true
 | .i n,cs,h=>by simp only[D.rep] at h;subst h;simp[Value.oneCell']
 | .b x,cs,h=>by simp only[D.rep] at h;subst h;simp[Value.oneCell']
 | .s x,cs,h=>by simp only[D.rep] at h;subst h;simp[Value.oneCell']
 | .st l,cs,h=>by simp only[D.rep] at h;exact D.oD l cs h
 | .sl l,cs,h=>by simp only[D.rep] at h;obtain⟨A,c,rfl,_⟩:=h;simp[Value.oneCell']
theorem D.oD{w:World}{P:Nat→Prop}:∀(l:List D) (cs:List Value),D.aL w P l cs→∀u∈cs,u.oneCell'=true
 | [],cs,h=>by simp only[D.aL] at h;subst h;simp
 | d::l,cs,h=>by
  simp only[D.aL] at h;obtain⟨x,y,rfl,hx,a3⟩:=h;intro u hu;rcases List.mem_append.1 hu with hu|hu
  ·exact D.qw d x hx u hu
  ·exact D.oD l y a3 u hu
end
theorem D.er{w:World}{P:Nat→Prop}:∀{l m:List D} {x y:List Value},D.aL w P l x→D.aL w P m y→D.aL w P (l++m) (x++y)
 | [],m,x,y,hx,a3=>by simp only[D.aL] at hx;subst hx;exact a3
 | d::l,m,x,y,hx,a3=>by
  simp only[D.aL,List.cons_append] at hx ⊢;obtain⟨a,c,rfl,aV,hc⟩:=hx;exact⟨a,c++y,by rw[List.append_assoc],aV,D.er hc a3⟩
theorem D.kN{w:World}{P:Nat→Prop}:∀{l m:List D} {x:List Value},D.aL w P (l++m) x→∃y z,x=y++z∧D.aL w P l y∧D.aL w P m z
 | [],m,x,h=>⟨[],x,rfl,by simp only[D.aL],h⟩
 | d::l,m,x,h=>by
  simp only[D.aL,List.cons_append] at h;obtain⟨a,c,rfl,aV,hc⟩:=h;obtain⟨y,z,rfl,a3,bv⟩:=D.kN hc;exact⟨a++y,z,by rw[List.append_assoc],by simp only[D.aL];exact⟨a,y,rfl,aV,a3⟩,bv⟩
theorem D.bH{w:World}{P:Nat→Prop}{d:D}{x:List Value}:D.aL w P [d] x↔d.rep w P x:=by
 simp only[D.aL];constructor
 ·rintro⟨a,b,rfl,aV,rfl⟩;simpa using aV
 ·intro h;exact⟨x,[],by simp,h,rfl⟩
theorem D.ke{z:Nat}:∀{l:List D},(∀d∈l,d.sz=z)→D.vM l=l.length*z
 | [],_=>by simp[D.vM]
 | d::l,h=>by
  have aa:D.vM l=l.length*z:=D.ke (fun x hx=>h x (List.mem_cons_of_mem _ hx));simp only[D.vM,List.length_cons,Nat.succ_mul,h d (List.mem_cons_self),aa];omega
theorem D.qy{w:World}{P:Nat→Prop}{z:Nat}:∀{l:List D} {xs:List Value},D.aL w P l xs→(∀d∈l,d.sz=z)→∀{k:Nat} {d:D},l[k]?=some d→
  ∃cs,d.rep w P cs∧cs.length=z∧∀j u,cs[j]?=some u→xs[k*z+j]?=some u
 | [],xs,_,_,k,d,ap=>by simp at ap
 | e::l,xs,h,bv,0,d,ap=>by
  simp only[D.aL] at h;obtain⟨x,y,rfl,hx,_⟩:=h;simp only[List.getElem?_cons_zero,Option.some.injEq] at ap;subst ap;refine⟨x,hx,(D.ka _ _ hx).trans (bv e (by simp)),fun j u hu=>?_⟩;rw[Nat.zero_mul,Nat.zero_add,List.getElem?_append_left (List.getElem?_eq_some_iff.1 hu).1]
  exact hu
 | e::l,xs,h,bv,k+1,d,ap=>by
  simp only[D.aL] at h;obtain⟨x,y,rfl,hx,a3⟩:=h;simp only[List.getElem?_cons_succ] at ap;obtain⟨cs,aX,hl,ba⟩:=D.qy a3 (fun x hx=>bv x (by simp[hx])) ap;have bN:=(D.ka _ _ hx).trans (bv e (by simp));refine⟨cs,aX,hl,fun j u hu=>?_⟩;rw[List.getElem?_append_right (by rw[bN,Nat.succ_mul];omega),bN,show (k+1)*z+j - z=k*z+j by rw[Nat.succ_mul];omega];exact ba j u hu
def Sl(w:World)(P:Nat→Prop)(A:GR)(n:Nat)(l:List D):Prop:=
 l.length=n∧(0<n→∃b o xs,A=some ⟨b,o,none⟩∧P b∧D.aL w P l xs∧∀j u,xs[j]?=some u→w.cell? ⟨b,o+j,none⟩=some u)
section
variable {w ab:World} {P c8:Nat→Prop} {A:GR} {n z:Nat} {l:List D}
theorem D.qz{cs:List Value}:(D.sl l).rep w P cs↔∃A c n,cs=[.slice A n c]∧n≤c∧Sl w P A n l:=by
 simp only[D.rep,Sl];constructor
 ·rintro⟨A,c,rfl,hc,h⟩;exact⟨A,c,_,rfl,hc,rfl,h⟩
 ·rintro⟨A,c,n,rfl,hc,rfl,h⟩;exact⟨A,c,rfl,hc,h⟩
theorem Sl.bu(A:GR):Sl w P A 0 []:=⟨rfl,fun h=>absurd h (by omega)⟩
theorem Sl.ao(h:Sl w P A n l)(ap:∀b,P b→ab.heap[b]?=w.heap[b]?):Sl ab P A n l:=by
 refine⟨h.1,fun hn=>?_⟩;obtain⟨b,o,xs,bb,O,aX,ba⟩:=h.2 hn;exact⟨b,o,xs,bb,O,D.cJ ap l xs aX,fun j u hu=>(World.cell?_of_block (w:=w) (ap b O)).trans (ba j u hu)⟩
theorem Sl.mono(h:Sl w P A n l)(hp:∀b,P b→c8 b):Sl w c8 A n l:=by
 refine⟨h.1,fun hn=>?_⟩;obtain⟨b,o,xs,bb,O,aX,ba⟩:=h.2 hn;exact⟨b,o,xs,bb,hp b O,D.cr hp l xs aX,ba⟩
theorem Sl.some_(h:Sl w P A n l)(hn:0<n):∃b o,A=some ⟨b,o,none⟩∧P b:=by
 obtain⟨b,o,xs,bb,O,_⟩:=h.2 hn;exact⟨b,o,bb,O⟩
theorem Sl.none_(h:Sl w P none n l):n=0:=by
 rcases Nat.eq_zero_or_pos n with h0|h0
 ·exact h0
 ·obtain⟨b,o,bb,_⟩:=h.some_ h0;cases bb
theorem Sl.at_(h:Sl w P A n l)(bv:∀d∈l,d.sz=z){k:Nat}(ap:k<n) :
  ∃b o d cs,A=some ⟨b,o,none⟩∧P b∧l[k]?=some d∧d.rep w P cs∧cs.length=z∧∀j u,cs[j]?=some u→w.cell? ⟨b,o+k*z+j,none⟩=some u:=by
 obtain⟨b,o,xs,bb,O,aX,ba⟩:=h.2 (by omega);have hm:l[k]?=some (l[k]'(by have:=h.1;omega)):=List.getElem?_eq_getElem _;obtain⟨cs,hd,hl,hc⟩:=D.qy aX bv hm;exact⟨b,o,_,cs,bb,O,hm,hd,hl,fun j u hu=>by rw[Nat.add_assoc];exact ba _ u (hc j u hu)⟩
theorem Sl.fJ{α:Type}{enc:α→D}{l:List α}(h:Sl w P A n (l.map enc))(bv:∀x,(enc x).sz=z){k:Nat}(ap:k<n) :
  ∃b o x cs,A=some ⟨b,o,none⟩∧P b∧l[k]?=some x∧(enc x).rep w P cs∧cs.length=z∧∀j u,cs[j]?=some u→w.cell? ⟨b,o+k*z+j,none⟩=some u:=by
 obtain⟨b,o,d,cs,bb,O,hd,aX,hl,hc⟩:=h.at_ (z:=z) (fun d hd=>by obtain⟨x,_,rfl⟩:=List.mem_map.1 hd;exact bv x) ap;rw[List.getElem?_map] at hd
 cases hx:l[k]? with
 | none=>rw[hx] at hd;cases hd
 | some x=>
  rw[hx] at hd;injection hd with hd;subst hd;exact⟨b,o,x,cs,bb,O,rfl,aX,hl,hc⟩
theorem Sl.take(h:Sl w P A n l){m:Nat}(hm:m≤n):Sl w P A m (l.take m):=by
 refine⟨by have:=h.1;simp;omega,fun h0=>?_⟩;obtain⟨b,o,xs,bb,O,aX,ba⟩:=h.2 (by omega);rw[←List.take_append_drop m l] at aX;obtain⟨y,bu,rfl,a3,_⟩:=D.kN aX;exact⟨b,o,y,bb,O,a3,fun j u hu=>ba j u (by rw[List.getElem?_append_left (List.getElem?_eq_some_iff.1 hu).1];exact hu)⟩
theorem Sl.src(h:Sl w P A n l)(bv:∀d∈l,d.sz=z):∃xs,D.aL w P l xs∧Src w z A n xs:=by
 rcases Nat.eq_zero_or_pos n with hn|hn
 ·subst hn;have:l=[]:=List.eq_nil_of_length_eq_zero h.1;subst this;exact⟨[],by simp only[D.aL],by simp,by simp,fun h=>absurd h (by omega)⟩
 ·obtain⟨b,o,xs,bb,O,aX,ba⟩:=h.2 hn;exact⟨xs,aX,by rw[D.jJ _ _ aX,D.ke bv,h.1],D.oD l xs aX,fun _=>⟨b,o,bb,ba⟩⟩
theorem Sl.om{base:Nat}{e:TypeId}{c:Nat}{xs:List Value}(h:w.ownsRow base e z (.slice A n c) n xs)(aX:D.aL w P l xs)(hl:l.length=n)(U:∀g,A=some ⟨g,0,none⟩→base≤g→g<w.heap.size→P g):Sl w P A n l:=by
 refine⟨hl,fun hn=>?_⟩;obtain⟨g,bb,O,aM,hc,_⟩:=j9 h hn;exact⟨g,0,xs,bb,U g bb O aM,aX,fun j u hu=>by rw[Nat.zero_add];exact hc j u hu⟩
end
abbrev au(w:World):Nat→Prop:=fun b=>b<w.heap.size
theorem D.on{w ab:World}{d:D}{cs:List Value}(h:d.rep w (au w) cs)(O:Below w.heap.size w ab):d.rep ab (au ab) cs:=
 D.aP (fun _ ao=>Nat.lt_of_lt_of_le ao O.size) _ _ (D.bg (fun b ao=>O.block b ao) _ _ h)
theorem Sl.on{w ab:World}{A:GR}{n:Nat}{l:List D}(h:Sl w (au w) A n l)(O:Below w.heap.size w ab):Sl ab (au ab) A n l:=
 (h.ao (fun b ao=>O.block b ao)).mono (fun _ ao=>Nat.lt_of_lt_of_le ao O.size)
structure Fr(M:Nat→Prop)(w ab:World):Prop where
 os:ab.os=w.os
 tape:ab.tape=w.tape
 output:ab.output=w.output
 size:w.heap.size≤ab.heap.size
 block:∀k,k<w.heap.size→¬M k→ab.heap[k]?=w.heap[k]?
abbrev Ext:World→World→Prop:=Fr fun _=>False
section
variable {M M':Nat→Prop} {a b c:World}
theorem Fr.refl(M:Nat→Prop)(w:World):Fr M w w:=⟨rfl,rfl,rfl,Nat.le_refl _,fun _ _ _=>rfl⟩
theorem Fr.trans(h:Fr M a b)(k:Fr M b c):Fr M a c:=
 ⟨k.os.trans h.os,k.tape.trans h.tape,k.output.trans h.output,Nat.le_trans h.size k.size,fun i aJ hn=>(k.block i (Nat.lt_of_lt_of_le aJ h.size) hn).trans (h.block i aJ hn)⟩
theorem Fr.mono(h:Fr M a b)(a5:∀k,M k→M' k):Fr M' a b:=⟨h.os,h.tape,h.output,h.size,fun k ap hn=>h.block k ap fun hm=>hn (a5 k hm)⟩
theorem Fr.of(h:Below a.heap.size a b):Fr M a b:=⟨h.os,h.tape,h.output,h.size,fun k ap _=>h.block k ap⟩
theorem Fr.below{B:Nat}(h:Fr M a b)(aT:B≤a.heap.size)(a5:∀k,k<B→¬M k):Below B a b:=⟨h.os,h.tape,h.output,h.size,fun k ap=>h.block k (Nat.lt_of_lt_of_le ap aT) (a5 k ap)⟩
theorem Fr.low(h:Fr M a b)(a5:∀k,M k→a.heap.size≤k):Ext a b:=⟨h.os,h.tape,h.output,h.size,fun k ap _=>h.block k ap fun hm=>by have:=a5 k hm;omega⟩
theorem Fr.ext(h:Ext a b):Below a.heap.size a b:=h.below (Nat.le_refl _) fun _ _ h=>h
theorem Fr.drew(h:Fr M a b):Fr M a b.drew:=⟨h.os,h.tape,h.output,h.size,h.block⟩
theorem Fr.drewN(h:Fr M a b)(n:Nat):Fr M a (b.drewN n):=⟨h.os,h.tape,h.output,h.size,h.block⟩
theorem Fr.alloc(h:Fr M a b)(o:Obj):Fr M a (b.alloc o):=
 ⟨h.os,h.tape,h.output,by have:=h.size;simp;omega,fun k ap hn=>(Below.heap_alloc b o k (Nat.lt_of_lt_of_le ap h.size)).trans (h.block k ap hn)⟩
theorem Fr.setCell(h:Fr M a b){p:Addr}(hp:M p.block∨a.heap.size≤p.block)(v:Value):Fr M a (b.setCell p v):=by
 refine⟨h.os,h.tape,h.output,by simpa using h.size,fun k ap hn=>?_⟩;have:k≠p.block:=by
  rintro rfl;rcases hp with hp|hp
  ·exact hn hp
  ·omega
 rw[Below.heap_setCell _ _ _ _ this];exact h.block k ap hn
theorem Fr.eg(h:Fr M a b)(k:Below a.heap.size b c):Fr M a c:=
 ⟨k.os.trans h.os,k.tape.trans h.tape,k.output.trans h.output,Nat.le_trans h.size k.size,fun i aJ hn=>(k.block i aJ).trans (h.block i aJ hn)⟩
theorem Fr.grown{row:Option Nat}(h:Fr M a b)(aM:b.grownBy c row)(aX:∀g,row=some g→M g∨a.heap.size≤g):Fr M a c:=by
 refine⟨aM.os.trans h.os,aM.tape.trans h.tape,aM.output.trans h.output,Nat.le_trans h.size aM.size,fun k ap hn=>?_⟩;refine(aM.block k (Nat.lt_of_lt_of_le ap h.size) fun e=>?_).trans (h.block k ap hn);rcases aX k e.symm with ac|ac
 ·exact hn ac
 ·omega
theorem Fr.cell(h:Fr M a b){k j:Nat}(ap:k<a.heap.size)(hn:¬M k):b.cell? ⟨k,j,none⟩=a.cell? ⟨k,j,none⟩:=World.cell?_of_block (h.block k ap hn)
theorem Fr.frozen(h:Fr M a b){k j:Nat}(ap:k<a.heap.size)(hn:¬M k):b.frozen? ⟨k,j,none⟩=a.frozen? ⟨k,j,none⟩:=by
 simp only[World.frozen?,h.block k ap hn]
theorem Fr.two(h:Fr M a b):(∀k j,k<a.heap.size→¬M k→b.cell? ⟨k,j,none⟩=a.cell? ⟨k,j,none⟩)∧(∀k j,k<a.heap.size→¬M k→b.frozen? ⟨k,j,none⟩=a.frozen? ⟨k,j,none⟩):=
 ⟨fun _ _ ap hn=>h.cell ap hn,fun _ _ ap hn=>h.frozen ap hn⟩
theorem Fr.oK(h:Ext a b):(∀k j,k<a.heap.size→b.cell? ⟨k,j,none⟩=a.cell? ⟨k,j,none⟩)∧(∀k j,k<a.heap.size→b.frozen? ⟨k,j,none⟩=a.frozen? ⟨k,j,none⟩):=
 ⟨fun _ _ ap=>h.cell ap (fun h=>h),fun _ _ ap=>h.frozen ap (fun h=>h)⟩
theorem Fr.twod(h:Fr M a.drew b):(∀k j,k<a.heap.size→¬M k→b.cell? ⟨k,j,none⟩=a.cell? ⟨k,j,none⟩)∧(∀k j,k<a.heap.size→¬M k→b.frozen? ⟨k,j,none⟩=a.frozen? ⟨k,j,none⟩):=
 ⟨fun _ _ ap hn=>h.cell ap hn,fun _ _ ap hn=>h.frozen ap hn⟩
theorem Fr.DI(h:Ext a.drew b):(∀k j,k<a.heap.size→b.cell? ⟨k,j,none⟩=a.cell? ⟨k,j,none⟩)∧(∀k j,k<a.heap.size→b.frozen? ⟨k,j,none⟩=a.frozen? ⟨k,j,none⟩):=
 ⟨fun _ _ ap=>h.cell ap (fun h=>h),fun _ _ ap=>h.frozen ap (fun h=>h)⟩
theorem Fr.fC(h:Ext a.drew.drew b):(∀k j,k<a.heap.size→b.cell? ⟨k,j,none⟩=a.cell? ⟨k,j,none⟩)∧(∀k j,k<a.heap.size→b.frozen? ⟨k,j,none⟩=a.frozen? ⟨k,j,none⟩):=
 ⟨fun _ _ ap=>h.cell ap (fun h=>h),fun _ _ ap=>h.frozen ap (fun h=>h)⟩
theorem Fr.Fj(h:Fr M a.drew.drew b):(∀k j,k<a.heap.size→¬M k→b.cell? ⟨k,j,none⟩=a.cell? ⟨k,j,none⟩)∧(∀k j,k<a.heap.size→¬M k→b.frozen? ⟨k,j,none⟩=a.frozen? ⟨k,j,none⟩):=
 ⟨fun _ _ ap hn=>h.cell ap hn,fun _ _ ap hn=>h.frozen ap hn⟩
theorem Fr.aE(h:Fr M a.drew b):Fr M a b:=⟨h.os,h.tape,h.output,h.size,h.block⟩
end
abbrev off(M:Nat→Prop)(w:World):Nat→Prop:=fun b=>b<w.heap.size∧¬M b
section
variable {M:Nat→Prop} {w ab:World}
theorem rv(h:Fr M w ab):∀b,off M w b→off M ab b:=fun _ O=>⟨Nat.lt_of_lt_of_le O.1 h.size,O.2⟩
theorem D.cZ{d:D}{cs:List Value}(h:d.rep w (off M w) cs)(O:Fr M w ab):d.rep ab (off M ab) cs:=
 D.aP (rv O) _ _ (D.bg (fun b ao=>O.block b ao.1 ao.2) _ _ h)
theorem Sl.cZ{A:GR}{n:Nat}{l:List D}(h:Sl w (off M w) A n l)(O:Fr M w ab):Sl ab (off M ab) A n l:=
 (h.ao (fun b ao=>O.block b ao.1 ao.2)).mono (rv O)
end
def ag(w:World)(g:Nat)(t:TypeId)(cs:Array Value):Prop:=w.heap[g]?=some (.cells cs t (0,0))
section
variable {w ab:World} {g:Nat} {t:TypeId} {cs:Array Value} {M:Nat→Prop}
theorem ag.lt(h:ag w g t cs):g<w.heap.size:=by
 rcases Nat.lt_or_ge g w.heap.size with ao|a3
 ·exact ao
 ·unfold ag at h;rw[Array.getElem?_eq_none a3] at h;cases h
theorem ag.cell(h:ag w g t cs)(i:Nat):w.cell? ⟨g,i,none⟩=cs[i]?:=cell_of_row w g i cs t (0,0) h
theorem ag.frozen(h:ag w g t cs)(i:Nat):w.frozen? ⟨g,i,none⟩=false:=by
 unfold ag at h;simp[World.frozen?,h]
theorem ag.two(h:ag w g t cs):(∀i,w.cell? ⟨g,i,none⟩=cs[i]?)∧(∀i,w.frozen? ⟨g,i,none⟩=false)∧g<w.heap.size:=⟨h.cell,h.frozen,h.lt⟩
theorem ag.new(w:World)(t:TypeId)(cs:Array Value):ag (w.alloc (.cells cs t)) w.heap.size t cs:=heap_alloc_new w _
theorem ag.bR(w:World)(t:TypeId)(cs:Array Value)(aM:g=w.heap.size):ag (w.alloc (.cells cs t)) g t cs:=by
 subst aM;exact heap_alloc_new w _
theorem ag.drew(h:ag w g t cs):ag w.drew g t cs:=h
theorem ag.alloc(h:ag w g t cs)(o:Obj):ag (w.alloc o) g t cs:=(Below.heap_alloc w o g h.lt).trans h
theorem ag.aH(h:ag w g t cs)(i:Nat)(u:Value):ag (w.setCell ⟨g,i,none⟩ u) g t (cs.setIfInBounds i u):=by
 unfold ag at h ⊢;simp[World.setCell,Array.getElem?_modify,h]
theorem ag.FD(h:ag w g t cs){p:Addr}(hp:g≠p.block)(u:Value):ag (w.setCell p u) g t cs:=(Below.heap_setCell w p u g hp).trans h
theorem ag.below{B:Nat}(h:ag w g t cs)(O:Below B w ab)(aM:g<B):ag ab g t cs:=(O.block g aM).trans h
theorem ag.on(h:ag w g t cs)(O:Fr M w ab)(aM:¬M g):ag ab g t cs:=(O.block g h.lt aM).trans h
theorem ag.al(h:ag w g t cs)(O:Ext w ab):ag ab g t cs:=(O.block g h.lt fun h=>h).trans h
theorem ag.grown{row:Option Nat}(h:ag w g t cs)(O:w.grownBy ab row)(aM:some g≠row):ag ab g t cs:=(O.block g h.lt aM).trans h
end
theorem PU:(∀(t:Array Value) (d:List Deferred) (i:Nat) (v:Value),Act.put ⟨t,d⟩ (some i) v=⟨t.setIfInBounds i v,d⟩)∧(∀(l:List Value) (i:Nat) (v:Value),l.toArray.setIfInBounds i v=(l.set i v).toArray)∧(∀(x v:Value) (l:List Value),(x::l).set 0 v=v::l)∧(∀(x v:Value) (l:List Value) (i:Nat),(x::l).set (i+1) v=x::l.set i v)∧
  (∀(l:List Oper) (i:Nat) (h:i<l.toArray.size),l.toArray[i]'h=l[i]'(by simpa using h))∧(∀(x:Oper) (l:List Oper) (h:0<(x::l).length),(x::l)[0]'h=x)∧(∀(x:Oper) (l:List Oper) (i:Nat) (h:i+1<(x::l).length),(x::l)[i+1]'h=l[i]'(by simpa using h)):=
 ⟨fun _ _ _ _=>rfl,fun _ _ _=>by simp,fun _ _ _=>rfl,fun _ _ _ _=>rfl,fun _ _ _=>by simp,fun _ _ _=>rfl,fun _ _ _ _=>rfl⟩
section
variable {P:Program} {ops:Array Oper} {Q:Exit→Act→World→Prop} {R:World→World→Prop} {M:Nat→Prop} {tails:List Nat} {i:Nat} {o:Oper} {v:Value} {a I:Act} {w:World}
theorem pf{rest:List (Nat×Nat)}(h:bJ P ops Q R rest I w)(aJ:ops[i]?=some o:=by rfl)(hw:Region.wanted o (yielded ops a.tmps)=true:=by rfl)(bC:∀V,(execOp a.eval o).run P V=.ok (.value v) V:=by intro V;(go_simp<;>with_reducible rfl))(aV:a.put o.dst v=I:=by (simp only[PU];rfl)) :
  bJ P ops Q R ((i,3)::rest) a w:=bj aJ hw bC (aV▸h)
theorem tf{rest:PT}(h:cN P ops Q R tails rest I w)(aJ:ops[i]?=some o:=by rfl)(hw:Region.wanted o (yielded ops a.tmps)=true:=by rfl)(bC:∀V,(execOp a.eval o).run P V=.ok (.value v) V:=by intro V;(go_simp<;>with_reducible rfl))(aV:a.put o.dst v=I:=by (simp only[PU];rfl)) :
  cN P ops Q R tails (.free i rest) a w:=kf aJ hw bC (aV▸h)
theorem ph{rest:List (Nat×Nat)}(h:bJ P ops Q R rest I w)(aJ:ops[i]?=some o:=by rfl)(hw:Region.wanted o (yielded ops a.tmps)=true:=by rfl)(bC:∀V,R w V→(execOp a.eval o).run P V=.ok (.value v) V:=by intro V hV;obtain⟨hVc,hVf⟩:=Fr.DI hV;(go_simp<;>with_reducible rfl))(aV:a.put o.dst v=I:=by (simp only[PU];rfl)) :
  bJ P ops Q R ((i,0)::rest) a w:=bm aJ hw bC (aV▸h)
theorem th{rest:PT}(h:cN P ops Q R tails rest I w)(aJ:ops[i]?=some o:=by rfl)(hw:Region.wanted o (yielded ops a.tmps)=true:=by rfl)(bC:∀V,R w V→(execOp a.eval o).run P V=.ok (.value v) V:=by intro V hV;obtain⟨hVc,hVf⟩:=Fr.DI hV;(go_simp<;>with_reducible rfl))(aV:a.put o.dst v=I:=by (simp only[PU];rfl)) :
  cN P ops Q R tails (.held i rest) a w:=bx aJ hw bC (aV▸h)
theorem FM{rest:List (Nat×Nat)}(h:bJ P ops Q R rest I w)(aJ:ops[i]?=some o:=by rfl)(hw:Region.wanted o (yielded ops a.tmps)=true:=by rfl)(bC:∀V,R w V→(execOp a.eval o).run P V=.ok (.value v) V:=by intro V hV;obtain⟨hVc,hVf⟩:=Fr.oK hV;(go_simp<;>with_reducible rfl))(aV:a.put o.dst v=I:=by (simp only[PU];rfl)) :
  bJ P ops Q R ((i,0)::rest) a w:=bm aJ hw bC (aV▸h)
theorem ow{rest:List (Nat×Nat)}(h:bJ P ops Q R rest I w)(aJ:ops[i]?=some o:=by rfl)(hw:Region.wanted o (yielded ops a.tmps)=true:=by rfl)(bC:∀V,R w V→(execOp a.eval o).run P V=.ok (.value v) V:=by intro V hV;obtain⟨hVc,hVf⟩:=Fr.twod hV;(go_simp<;>with_reducible rfl))(aV:a.put o.dst v=I:=by (simp only[PU];rfl)) :
  bJ P ops Q R ((i,0)::rest) a w:=bm aJ hw bC (aV▸h)
theorem mE{rest:PT}(h:cN P ops Q R tails rest I w)(aJ:ops[i]?=some o:=by rfl)(hw:Region.wanted o (yielded ops a.tmps)=true:=by rfl)(bC:∀V,R w V→(execOp a.eval o).run P V=.ok (.value v) V:=by intro V hV;obtain⟨hVc,hVf⟩:=Fr.twod hV;(go_simp<;>with_reducible rfl))(aV:a.put o.dst v=I:=by (simp only[PU];rfl)) :
  cN P ops Q R tails (.held i rest) a w:=bx aJ hw bC (aV▸h)
theorem F9{rest:List (Nat×Nat)}(h:bJ P ops Q R rest I w)(aJ:ops[i]?=some o:=by rfl)(hw:Region.wanted o (yielded ops a.tmps)=true:=by rfl)(bC:∀V,R w V→(execOp a.eval o).run P V=.ok (.value v) V:=by intro V hV;obtain⟨hVc,hVf⟩:=Fr.two hV;(go_simp<;>with_reducible rfl))(aV:a.put o.dst v=I:=by (simp only[PU];rfl)) :
  bJ P ops Q R ((i,0)::rest) a w:=bm aJ hw bC (aV▸h)
theorem FY{rest:PT}(h:cN P ops Q R tails rest I w)(aJ:ops[i]?=some o:=by rfl)(hw:Region.wanted o (yielded ops a.tmps)=true:=by rfl)(bC:∀V,R w V→(execOp a.eval o).run P V=.ok (.value v) V:=by intro V hV;obtain⟨hVc,hVf⟩:=Fr.two hV;(go_simp<;>with_reducible rfl))(aV:a.put o.dst v=I:=by (simp only[PU];rfl)) :
  cN P ops Q R tails (.held i rest) a w:=bx aJ hw bC (aV▸h)
theorem Ci{rest:List (Nat×Nat)}(h:bJ P ops Q R rest I w)(aJ:ops[i]?=some o:=by rfl)(hw:Region.wanted o (yielded ops a.tmps)=true:=by rfl)(bC:∀V,R w V→(execOp a.eval o).run P V=.ok (.value v) V:=by intro V hV;obtain⟨hVc,hVf⟩:=Fr.Fj hV;(go_simp<;>with_reducible rfl))(aV:a.put o.dst v=I:=by (simp only[PU];rfl)) :
  bJ P ops Q R ((i,0)::rest) a w:=bm aJ hw bC (aV▸h)
theorem uQ{x:Obj}{rest:List (Nat×Nat)}{M:Nat→Prop}(h:bJ P ops Q (Fr M) rest I (w.alloc x))(aJ:ops[i]?=some o:=by rfl)(hx:∀K:Act→World→Prop,K I (w.alloc x)→if Region.wanted o (yielded ops a.tmps)=true then o.wp P a w K Q else K (a.put o.dst undef) w:=by (intro K hK;go_simp;(try simp only[PU] at hK ⊢);exact hK)) :
  bJ P ops Q (Fr M) ((i,1)::rest) a w:=aA aJ fun K hK=>hx K (hK _ _ ((Fr.refl _ _).alloc _) h)
theorem dU{x:Obj}{p:PT}{M:Nat→Prop}(h:cN P ops Q (Fr M) tails p I (w.alloc x))(aJ:ops[i]?=some o:=by rfl)(hx:∀K:Act→World→Prop,K I (w.alloc x)→if Region.wanted o (yielded ops a.tmps)=true then o.wp P a w K Q else K (a.put o.dst undef) w:=by (intro K hK;go_simp;(try simp only[PU] at hK ⊢);exact hK))(aR:tails.contains i=false:=by rfl) :
  lL P ops Q (Fr M) tails i p a w:=az aJ (fun K hK=>hx K (hK _ _ ((Fr.refl _ _).alloc _) h)) aR
theorem rC{x:Obj}{rest:List (Nat×Nat)}{M:Nat→Prop}(h:bJ P ops Q (Fr M) rest I (w.alloc x).drew)(aJ:ops[i]?=some o:=by rfl)(hx:∀K:Act→World→Prop,K I (w.alloc x).drew→if Region.wanted o (yielded ops a.tmps)=true then o.wp P a w.drew K Q else K (a.put o.dst undef) w.drew:=by (intro K hK;go_simp;(try simp only[PU] at hK ⊢);exact hK)) :
  bJ P ops Q (Fr M) ((i,1)::rest) a w.drew:=aA aJ fun K hK=>hx K (hK _ _ ((Fr.refl _ _).alloc _) h)
theorem ja{x:Obj}{p:PT}{M:Nat→Prop}(h:cN P ops Q (Fr M) tails p I (w.alloc x).drew)(aJ:ops[i]?=some o:=by rfl)(hx:∀K:Act→World→Prop,K I (w.alloc x).drew→if Region.wanted o (yielded ops a.tmps)=true then o.wp P a w.drew K Q else K (a.put o.dst undef) w.drew:=by (intro K hK;go_simp;(try simp only[PU] at hK ⊢);exact hK))(aR:tails.contains i=false:=by rfl) :
  lL P ops Q (Fr M) tails i p a w.drew:=az aJ (fun K hK=>hx K (hK _ _ ((Fr.refl _ _).alloc _) h)) aR
end
section
variable {P:Program} {ops:Array Oper} {Q:Exit→Act→World→Prop} {M:Nat→Prop} {id:Nat} {a:Act} {w:World}
theorem eh(M:Nat→Prop)(e:List (Nat×Nat))(h:bJ P ops Q (Fr M) e a w.drew)(ac:P.follows .mixedOrders=true:=by kernel_rfl)(J:tt .any ops e=true:=by kernel_rfl)(bu:∀c a d v w,Q (.panic c) (a.put d v) w→Q (.panic c) a w:=by (intro _ _ d _ _ h;first|(cases d<;>exact h)|exact hQ0 _ _ _ _ _ h)):(Code.region id ops true).wp P Q a w:=
 jM (Fr M) e ac J (Fr.refl _) (fun _ _ _ h k=>h.trans k) bu h
theorem o2(M:Nat→Prop)(tails:List Nat)(p:PT)(h:cN P ops Q (Fr M) tails p a w.drew)(ac:P.follows .mixedOrders=true:=by kernel_rfl)(J:tN .any ops tails p=true:=by kernel_rfl)(bu:∀c a d v w,Q (.panic c) (a.put d v) w→Q (.panic c) a w:=by (intro _ _ d _ _ h;first|(cases d<;>exact h)|exact hQ0 _ _ _ _ _ h)):(Code.region id ops true).wp P Q a w:=
 oO (Fr M) tails p ac J (Fr.refl _) (fun _ _ _ h k=>h.trans k) bu h
end
end Go.Proofs.YtjhgbdckgkppnaaGreat
