/- Part 0 of the proof. No condition of its own. -/
import Derived.Deep.Draws
import Derived.Maps.AppendAt
import Derived.OrdersHeld
import Derived.StillTail
import Derived.Test.YtnigabjngpnbiaaGreatRows
import Derived.WalkKit
import Derived.WalkLawsBesides
import Derived.WalkSpells
namespace Go.Proofs.YtnigabjngpnbiaaGreat
open Go.RowKit Go.Proofs.Tryz
set_option maxRecDepth 1000000
set_option maxHeartbeats 25600000
set_option linter.unusedVariables false
abbrev Kj:=Option Addr
abbrev Kk:=List ByteArray
def Kl(p:Prop):Prop:=p
theorem Kl.o{p:Prop}(h:Kl p):p:=h
section
variable {P:Program} {ops:Array Oper} {Q:Exit→Act→World→Prop} {md:Region.Mode} {R:World→World→Prop} {T:Nat→Bool}
def jA(P:Program)(md:Region.Mode)(ops:Array Oper)(Q:Exit→Act→World→Prop)(R:World→World→Prop)(T:Nat→Bool):Nat→Array Bool→Act→World→Prop
 | 0,listed,a,w=>Region.ready md ops listed=[]∧Q .normal a w
 | fuel+1,listed,a,w=>
  (Region.ready md ops listed=[]→Q .normal a w)∧
  ∀i∈Region.ready md ops listed,wpOp P ops Q i (fun q J=>(T i=true→R w J)∧jA P md ops Q R T fuel (listed.setIfInBounds i true) q J) a w
theorem lq:∀(fuel:Nat) (listed:Array Bool) (a:Act) (w:World),jA P md ops Q R T fuel listed a w→wpAny P md ops Q fuel listed a w
 | 0,_,_,_,h=>h
 | fuel+1,_,_,_,h=>⟨h.1,fun i I=>wpOp_mono (fun q J F=>lq fuel _ q J F.2) (h.2 i I)⟩
def jc(md:Region.Mode)(ops:Array Oper)(listed:Array Bool):Prop:=
 ∀j g,ops[j]?=some g→listed.getD j false=true→∀e∈g.after,Region.binds md e=true→listed.getD e.on false=true
theorem jc.set{i:Nat}{listed:Array Bool}(inv:jc md ops listed)(I:i∈Region.ready md ops listed):jc md ops (listed.setIfInBounds i true):=by
 obtain⟨_,s,cK,aP⟩:=mem_ready.1 I;intro j g be hl e he O;by_cases V:i=j
 ·subst V;have:g=s:=Option.some.inj (be.symm.trans cK);subst this;exact getD_set_true (aP e he O)
 ·rw[getD_set_ne false V] at hl;exact getD_set_true (inv j g be hl e he O)
def Cq(md:Region.Mode)(ops:Array Oper):Nat→Nat→Nat→Bool
 | 0,_,_=>false
 | f+1,j,i=>match ops[j]? with
  | none=>false
  | some g=>g.after.any fun e=>Region.binds md e && (e.on == i || Cq md ops f e.on i)
theorem Cr{i:Nat}{listed:Array Bool}(inv:jc md ops listed):∀(f j:Nat),Cq md ops f j i=true→
  (∃g,ops[j]?=some g∧∀e∈g.after,Region.binds md e=true→listed.getD e.on false=true)→listed.getD i false=true:=by
 intro f
 induction f with
 | zero=>intro j h;simp[Cq] at h
 | succ f ab=>
  intro j h be;obtain⟨g,bb,aP⟩:=be;simp only[Cq,bb] at h;obtain⟨e,he,O⟩:=Array.any_eq_true'.1 h;simp only[Bool.and_eq_true,Bool.or_eq_true,beq_iff_eq] at O;have hl:=aP e he O.1;rcases O.2 with ap|ap
  ·rw[←ap];exact hl
  ·refine ab e.on ap ?_
   cases aj:ops[e.on]? with
   | none=>cases f<;>simp[Cq,aj] at ap
   | some ok=>exact⟨ok,rfl,fun l a aN=>inv e.on ok aj hl l a aN⟩
theorem hb{i:Nat}{s:Oper}{v:Value}{U:World→World→Prop}(t:∀a b c,R a b→U b c→U a c)(l:∀a,R a a)(B:∀a,U a a)(I:ops[i]?=some s)(r:∀(j:Nat) (o:Oper) cs b,ops[j]?=some o→o.op≠.select cs b)
  (hQ:∀c a w,Q (.panic c) (a.put s.dst v) w→Q (.panic c) a w) (hT:(∀a b,U a b)∨∀j,T j=false→∃f,Cq md ops f j i=true) :
  ∀(fuel:Nat) (listed:Array Bool) (a:Act) (w:World),jc md ops listed→
   (∀j g,ops[j]?=some g→j≠i→listed.getD j true=false→(∀e∈g.after,Region.binds md e=true→e.on≠i)→s.apart ops g=true)→
   i∈Region.ready md ops listed→YieldsIf P ops (U w) s v a→
   jA P md ops Q R T fuel (listed.setIfInBounds i true) (a.put s.dst v) w→jA P md ops Q R T (fuel+1) listed a w:=by
 intro fuel
 induction fuel with
 | zero=>
  intro listed a w _ _ aZ aa H;refine⟨fun h=>(by rw[h] at aZ;cases aZ),fun j be=>?_⟩;by_cases ag:j=i
  ·subst ag;exact aa.wpOp I (B w) ⟨fun _=>l w,H⟩
  ·have:=ready_mono be ag;rw[H.1] at this
   cases this
 | succ fuel ab=>
  intro listed a w inv n aZ aa H;refine⟨fun h=>(by rw[h] at aZ;cases aZ),fun j be=>?_⟩;by_cases ag:j=i
  ·subst ag;exact aa.wpOp I (B w) ⟨fun _=>l w,H⟩
  ·have ac:=H.2 j (ready_mono be ag);obtain⟨y,g,x,aP⟩:=mem_ready.1 be;have p:=(mem_ready.1 aZ).1;have A:∀e∈g.after,Region.binds md e=true→e.on≠i:=fun e he O heq=>by
    have ac:=aP e he O;have h0:=p;rw[heq] at ac;rcases Nat.lt_or_ge i listed.size with F|F
    ·simp[F] at h0 ac;rw[h0] at ac;cases ac
    ·simp[Array.getElem?_eq_none F] at ac
   have m:(∀a b,U a b)∨T j=true:=by
    rcases hT with hT|hT
    ·exact .inl hT
    refine .inr ?_
    cases m:T j with
    | true=>rfl
    | false=>
     obtain⟨f,aA⟩:=hT j m;have:=Cr inv f j aA ⟨g,x,aP⟩;rcases Nat.lt_or_ge i listed.size with F|F
     ·simp[F] at p this;rw[p] at this;cases this
     ·simp[Array.getElem?_eq_none F] at this
   have ap:=wpOp_putIf (S:=U w) x (n j g x ag y A) (fun cs b=>r i s cs b I) (fun cs b=>r j g cs b x) hQ aa ac;have u:∀k ok,ops[k]?=some ok→k≠i→(listed.setIfInBounds j true).getD k true=false→
     (∀e∈ok.after,Region.binds md e=true→e.on≠i)→s.apart ops ok=true:=fun k ok aj D C bK=>by
    refine n k ok aj D ?_ bK;by_cases z:j=k
    ·subst z;exact y
    ·rw[getD_set_ne true z] at C;exact C
   refine wpOp_mono (fun q J aD=>?_) ap;have d:YieldsIf P ops (U J) s v q:=aD.1.imp (fun⟨hw,bD⟩=>⟨hw,fun V hV=>bD V (m.elim (fun h=>h _ _) fun h=>t _ _ _ (aD.2.1 h) hV)⟩) id;refine⟨aD.2.1,ab (listed.setIfInBounds j true) q J (inv.set be) u (ready_mono aZ (Ne.symm ag)) d ?_⟩;rw[Array.setIfInBounds_comm _ _ ag];exact aD.2.2
def b3(P:Program)(ops:Array Oper)(Q:Exit→Act→World→Prop)(R:World→World→Prop):List (Nat×Nat)→Act→World→Prop
 | [],a,w=>Q .normal a w
 | (i,0)::rest,a,w=>∃o v,ops[i]?=some o∧YieldsIf P ops (R w) o v a∧b3 P ops Q R rest (a.put o.dst v) w
 | (i,3)::rest,a,w=>∃o v,ops[i]?=some o∧YieldsIf P ops (fun _=>True) o v a∧b3 P ops Q R rest (a.put o.dst v) w
 | (i,k+1)::rest,a,w=>∃o,ops[i]?=some o∧∀K:Act→World→Prop,(∀q J,(k=0→R w J)→b3 P ops Q R rest q J→K q J)→
   (if Region.wanted o (yielded ops a.tmps)=true then o.wp P a w K Q else K (a.put o.dst undef) w)
def kM(md:Region.Mode)(ops:Array Oper):List (Nat×Nat)→Array Bool→Bool
 | [],listed=>(Region.ready md ops listed).isEmpty
 | (i,0)::rest,listed=>Region.free md ops listed i && (Region.ready md ops listed).contains i && kM md ops rest (listed.setIfInBounds i true)
 | (i,3)::rest,listed=>Region.free md ops listed i && (Region.ready md ops listed).contains i && kM md ops rest (listed.setIfInBounds i true)
 | (i,_+1)::rest,listed=>(Region.ready md ops listed == [i]) && kM md ops rest (listed.setIfInBounds i true)
def lZ(e:List (Nat×Nat)):List Nat:=(e.filter fun p=>decide (2=p.2)).map (·.1)
def uJ(md:Region.Mode)(ops:Array Oper)(e:List (Nat×Nat)):Bool:=
 Region.noSelect ops && (e.length == ops.size) && (e.all fun p=>decide (p.2≤3)) && (e.all fun p=>decide (p.2=1∨p.2=2∨p.2=3) || (lZ e).all fun j=>Cq md ops ops.size j p.1) && kM md ops e (Array.replicate ops.size false)
theorem h4(t:∀a b c,R a b→R b c→R a c)(l:∀a,R a a)(r:∀(j:Nat) (o:Oper) cs b,ops[j]?=some o→o.op≠.select cs b)
  (hQ:∀c a d v w,Q (.panic c) (a.put d v) w→Q (.panic c) a w) :
  ∀(e:List (Nat×Nat)) (listed:Array Bool) (a:Act) (w:World),jc md ops listed→kM md ops e listed=true→
   (∀p∈e,p.2=0→∀j,T j=false→∃f,Cq md ops f j p.1=true)→(∀p∈e,2=p.2→T p.1=false)→(∀p∈e,p.2≤3)→
   b3 P ops Q R e a w→jA P md ops Q R T e.length listed a w
 | [],listed,a,w,_,aK,_,_,_,h=>⟨by simpa[kM] using aK,h⟩
 | (i,0)::rest,listed,a,w,inv,aK,h0,ap,aD,h=>by
  obtain⟨o,v,I,aa,h⟩:=h;simp only[kM,Bool.and_eq_true] at aK;have aZ:i∈Region.ready md ops listed:=by simpa using aK.1.2
  exact hb (U:=R) t l l I r (fun c a w=>hQ c a _ _ w) (.inr (h0 (i,0) (by simp) rfl)) rest.length listed a w inv (Region.free_spec I aK.1.1) aZ aa
   (h4 t l r hQ rest _ _ _ (inv.set aZ) aK.2 (fun p hp=>h0 p (by simp[hp])) (fun p hp=>ap p (by simp[hp])) (fun p hp=>aD p (by simp[hp])) h)
 | (i,3)::rest,listed,a,w,inv,aK,h0,ap,aD,h=>by
  obtain⟨o,v,I,aa,h⟩:=h;simp only[kM,Bool.and_eq_true] at aK;have aZ:i∈Region.ready md ops listed:=by simpa using aK.1.2
  exact hb (U:=fun _ _=>True) (fun _ _ _ _ _=>trivial) l (fun _=>trivial) I r (fun c a w=>hQ c a _ _ w) (.inl fun _ _=>trivial) rest.length listed a w inv (Region.free_spec I aK.1.1) aZ aa
   (h4 t l r hQ rest _ _ _ (inv.set aZ) aK.2 (fun p hp=>h0 p (by simp[hp])) (fun p hp=>ap p (by simp[hp])) (fun p hp=>aD p (by simp[hp])) h)
 | (i,1)::rest,listed,a,w,inv,aK,h0,ap,aD,h=>by
  obtain⟨o,I,h⟩:=h;simp only[kM,Bool.and_eq_true,beq_iff_eq] at aK;have aZ:i∈Region.ready md ops listed:=by rw[aK.1];simp
  refine⟨fun h0=>(by rw[h0] at aZ;cases aZ),fun j be=>?_⟩;rw[aK.1] at be;have ag:j=i:=by simpa using be
  subst ag;have g:=h (fun q J=>(T j=true→R w J)∧jA P md ops Q R T rest.length (listed.setIfInBounds j true) q J) fun q J cq hp=>
   ⟨fun hT=>cq rfl,h4 t l r hQ rest _ _ _ (inv.set aZ) aK.2 (fun p hp=>h0 p (by simp[hp])) (fun p hp=>ap p (by simp[hp])) (fun p hp=>aD p (by simp[hp])) hp⟩
  unfold Go.wpOp;simp only[I];split
  ·rename_i hw;rw[if_pos hw] at g;exact .inl g
  ·rename_i hw;rw[if_neg hw] at g
   exact g
 | (i,2)::rest,listed,a,w,inv,aK,h0,ap,aD,h=>by
  obtain⟨o,I,h⟩:=h;simp only[kM,Bool.and_eq_true,beq_iff_eq] at aK;have aZ:i∈Region.ready md ops listed:=by rw[aK.1];simp
  refine⟨fun h0=>(by rw[h0] at aZ;cases aZ),fun j be=>?_⟩;rw[aK.1] at be;have ag:j=i:=by simpa using be
  subst ag;have m:T j=false:=ap (j,2) (by simp) rfl;have g:=h (fun q J=>(T j=true→R w J)∧jA P md ops Q R T rest.length (listed.setIfInBounds j true) q J) fun q J _ hp=>
   ⟨fun hT=>(by rw[m] at hT;cases hT),h4 t l r hQ rest _ _ _ (inv.set aZ) aK.2 (fun p hp=>h0 p (by simp[hp])) (fun p hp=>ap p (by simp[hp])) (fun p hp=>aD p (by simp[hp])) hp⟩
  unfold Go.wpOp;simp only[I];split
  ·rename_i hw;rw[if_pos hw] at g;exact .inl g
  ·rename_i hw;rw[if_neg hw] at g
   exact g
 | (i,k+4)::rest,listed,a,w,inv,aK,h0,ap,aD,h=>absurd (aD (i,k+4) (by simp)) (by simp)
theorem pv(R:World→World→Prop)(e:List (Nat×Nat)){id:Nat}{a:Act}{w:World}(hm:P.follows .mixedOrders=true)(aK:uJ .any ops e=true)
  (l:∀a,R a a) (t:∀a b c,R a b→R b c→R a c) (hQ:∀c a d v w,Q (.panic c) (a.put d v) w→Q (.panic c) a w)
  (h:b3 P ops Q R e a w.drew):(Code.region id ops true).wp P Q a w:=by
 simp only[uJ,Bool.and_eq_true,beq_iff_eq] at aK;obtain⟨⟨⟨⟨hs,hl⟩,aD⟩,ht⟩,hp⟩:=aK;refine wp_region_any hm (lq (R:=R) (T:=fun j=>!(lZ e).contains j) _ _ _ _ ?_);rw[←hl];refine h4 t l (Region.noSelect_spec hs) hQ e _ a _ (fun j g _ be=>?_) (by rw[hl];exact hp) (fun p f m j be=>?_) (fun p f n=>?_) (fun p f=>?_) h
 ·rw[getD_replicate_false] at be;cases be
 ·have ac:=List.all_eq_true.1 ht p f;rw[m] at ac;have k:j∈lZ e:=by simpa using be
  have ap:((lZ e).all fun j=>Cq .any ops ops.size j p.1)=true:=by simpa using ac
  exact⟨_,List.all_eq_true.1 ap j k⟩
 ·have:p.1∈lZ e:=List.mem_map.2 ⟨p,List.mem_filter.2 ⟨f,by simpa using n⟩,rfl⟩;simpa using this
 ·exact List.all_eq_true.1 aD p f |> of_decide_eq_true
theorem cR{i:Nat}{o:Oper}{v:Value}{rest:List (Nat×Nat)}{a:Act}{w:World}(I:ops[i]?=some o)(hw:Region.wanted o (yielded ops a.tmps)=true)
  (bD:∀V,R w V→(execOp a.eval o).run P V=.ok (.value v) V) (h:b3 P ops Q R rest (a.put o.dst v) w):b3 P ops Q R ((i,0)::rest) a w:=
 ⟨o,v,I,.inl ⟨hw,bD⟩,h⟩
theorem iW{i:Nat}{o:Oper}{rest:List (Nat×Nat)}{a:Act}{w:World}(I:ops[i]?=some o)(hw:Region.wanted o (yielded ops a.tmps)=false)
  (h:b3 P ops Q R rest (a.put o.dst undef) w):b3 P ops Q R ((i,0)::rest) a w:=
 ⟨o,undef,I,.inr ⟨hw,rfl⟩,h⟩
theorem bf{i:Nat}{o:Oper}{v:Value}{rest:List (Nat×Nat)}{a:Act}{w:World}(I:ops[i]?=some o)(hw:Region.wanted o (yielded ops a.tmps)=true)
  (bD:∀V,(execOp a.eval o).run P V=.ok (.value v) V) (h:b3 P ops Q R rest (a.put o.dst v) w):b3 P ops Q R ((i,3)::rest) a w:=
 ⟨o,v,I,.inl ⟨hw,fun V _=>bD V⟩,h⟩
theorem dk{i:Nat}{o:Oper}{rest:List (Nat×Nat)}{a:Act}{w:World}(I:ops[i]?=some o)(hw:Region.wanted o (yielded ops a.tmps)=false)
  (h:b3 P ops Q R rest (a.put o.dst undef) w):b3 P ops Q R ((i,3)::rest) a w:=
 ⟨o,undef,I,.inr ⟨hw,rfl⟩,h⟩
theorem aP{i:Nat}{o:Oper}{rest:List (Nat×Nat)}{a:Act}{w:World}(I:ops[i]?=some o)
  (h:∀K:Act→World→Prop,(∀q J,R w J→b3 P ops Q R rest q J→K q J)→if Region.wanted o (yielded ops a.tmps)=true then o.wp P a w K Q else K (a.put o.dst undef) w) :
  b3 P ops Q R ((i,1)::rest) a w:=
 ⟨o,I,fun K hK=>h K fun q J cq hp=>hK q J (fun _=>cq) hp⟩
theorem az{i:Nat}{o:Oper}{rest:List (Nat×Nat)}{a:Act}{w:World}(I:ops[i]?=some o)
  (h:∀K:Act→World→Prop,(∀q J,b3 P ops Q R rest q J→K q J)→if Region.wanted o (yielded ops a.tmps)=true then o.wp P a w K Q else K (a.put o.dst undef) w) :
  b3 P ops Q R ((i,2)::rest) a w:=
 ⟨o,I,fun K hK=>h K fun q J hp=>hK q J (fun h=>absurd h (by decide)) hp⟩
theorem aG{a:Act}{w:World}(h:Q .normal a w):b3 P ops Q R [] a w:=h
end
inductive PT where
 | stop
 | free (i:Nat) (rest:PT)
 | held (i:Nat) (rest:PT)
 | pick (is:List Nat) (f:Nat→PT)
section
variable {P:Program} {ops:Array Oper} {Q:Exit→Act→World→Prop} {md:Region.Mode} {R:World→World→Prop}
def cW(P:Program)(ops:Array Oper)(Q:Exit→Act→World→Prop)(R:World→World→Prop)(tails:List Nat):PT→Act→World→Prop
 | .stop,a,w=>Q .normal a w
 | .free i rest,a,w=>∃o v,ops[i]?=some o∧YieldsIf P ops (fun _=>True) o v a∧cW P ops Q R tails rest (a.put o.dst v) w
 | .held i rest,a,w=>∃o v,ops[i]?=some o∧YieldsIf P ops (R w) o v a∧cW P ops Q R tails rest (a.put o.dst v) w
 | .pick is f,a,w=>∀i∈is,∃o,ops[i]?=some o∧∀K:Act→World→Prop,(∀q J,(tails.contains i=false→R w J)→cW P ops Q R tails (f i) q J→K q J)→
   (if Region.wanted o (yielded ops a.tmps)=true then o.wp P a w K Q else K (a.put o.dst undef) w)
def l1(md:Region.Mode)(ops:Array Oper):PT→Nat→Array Bool→Bool
 | .stop,n,listed=>n == 0 && (Region.ready md ops listed).isEmpty
 | .free i rest,n,listed=>decide (0<n) && (Region.free md ops listed i && (Region.ready md ops listed).contains i && l1 md ops rest (n - 1) (listed.setIfInBounds i true))
 | .held i rest,n,listed=>decide (0<n) && (Region.free md ops listed i && (Region.ready md ops listed).contains i && l1 md ops rest (n - 1) (listed.setIfInBounds i true))
 | .pick is f,n,listed=>decide (0<n) && (!is.isEmpty && (Region.ready md ops listed == is) && is.all fun i=>l1 md ops (f i) (n - 1) (listed.setIfInBounds i true))
def PT.mR:PT→List Nat
 | .stop=>[]
 | .free _ rest=>rest.mR
 | .held i rest=>i::rest.mR
 | .pick is f=>is.flatMap fun i=>(f i).mR
def vm(md:Region.Mode)(ops:Array Oper)(tails:List Nat)(p:PT):Bool:=
 Region.noSelect ops && (p.mR.all fun i=>tails.all fun j=>Cq md ops ops.size j i) && l1 md ops p ops.size (Array.replicate ops.size false)
theorem vr(tails:List Nat)(t:∀a b c,R a b→R b c→R a c)(l:∀a,R a a)(r:∀(j:Nat) (o:Oper) cs b,ops[j]?=some o→o.op≠.select cs b)
  (hQ:∀c a d v w,Q (.panic c) (a.put d v) w→Q (.panic c) a w) :
  ∀(p:PT) (n:Nat) (listed:Array Bool) (a:Act) (w:World),jc md ops listed→l1 md ops p n listed=true→
   (∀i∈p.mR,∀j∈tails,∃f,Cq md ops f j i=true)→cW P ops Q R tails p a w→jA P md ops Q R (fun j=>!tails.contains j) n listed a w:=by
 intro p
 induction p with
 | stop=>
  intro n listed a w _ aK _ h;simp only[l1,Bool.and_eq_true,beq_iff_eq] at aK;obtain⟨rfl,aK⟩:=aK
  exact⟨by simpa using aK,h⟩
 | free i rest ab=>
  intro n listed a w inv aK an h;obtain⟨o,v,I,aa,h⟩:=h;simp only[l1,Bool.and_eq_true,decide_eq_true_eq] at aK;obtain⟨hn,⟨aA,hc⟩,aK⟩:=aK;obtain⟨m,rfl⟩:∃m,n=m+1:=⟨n - 1,by omega⟩
  have aZ:i∈Region.ready md ops listed:=by simpa using hc
  exact hb (U:=fun _ _=>True) (fun _ _ _ _ _=>trivial) l (fun _=>trivial) I r (fun c a w=>hQ c a _ _ w) (.inl fun _ _=>trivial) m listed a w inv (Region.free_spec I aA) aZ aa
   (ab m _ _ _ (inv.set aZ) aK an h)
 | held i rest ab=>
  intro n listed a w inv aK an h;obtain⟨o,v,I,aa,h⟩:=h;simp only[l1,Bool.and_eq_true,decide_eq_true_eq] at aK;obtain⟨hn,⟨aA,hc⟩,aK⟩:=aK;obtain⟨m,rfl⟩:∃m,n=m+1:=⟨n - 1,by omega⟩
  have aZ:i∈Region.ready md ops listed:=by simpa using hc
  refine hb (U:=R) t l l I r (fun c a w=>hQ c a _ _ w) (.inr fun j be=>an i (by simp[PT.mR]) j (by simpa using be)) m listed a w inv (Region.free_spec I aA) aZ aa
   (ab m _ _ _ (inv.set aZ) aK (fun i I=>an i (by simp[PT.mR,I])) h)
 | pick is f ab=>
  intro n listed a w inv aK an h;simp only[l1,Bool.and_eq_true,decide_eq_true_eq,beq_iff_eq] at aK;obtain⟨hn,⟨he,aZ⟩,aK⟩:=aK;obtain⟨m,rfl⟩:∃m,n=m+1:=⟨n - 1,by omega⟩
  by_cases aH:is=[]
  ·subst aH;simp at he
  ·refine⟨fun h0=>absurd (by rw[←aZ];exact h0) aH,fun j be=>?_⟩;have e:=be;rw[aZ] at be;obtain⟨o,I,h⟩:=h j be;have g:=h (fun q J=>((fun j=>!tails.contains j) j=true→R w J)∧jA P md ops Q R (fun j=>!tails.contains j) m (listed.setIfInBounds j true) q J) fun q J cq hp=>
    ⟨fun hT=>cq (by simpa using hT),ab j m _ _ _ (inv.set e) (by simpa using List.all_eq_true.1 aK j be) (fun i I=>an i (by simp only[PT.mR,List.mem_flatMap];exact⟨j,be,I⟩)) hp⟩
   unfold Go.wpOp;simp only[I];split
   ·rename_i hw;rw[if_pos hw] at g;exact .inl g
   ·rename_i hw;rw[if_neg hw] at g;exact g
theorem pw(R:World→World→Prop)(tails:List Nat)(p:PT){id:Nat}{a:Act}{w:World}(hm:P.follows .mixedOrders=true)(aK:vm .any ops tails p=true)
  (l:∀a,R a a) (t:∀a b c,R a b→R b c→R a c) (hQ:∀c a d v w,Q (.panic c) (a.put d v) w→Q (.panic c) a w)
  (h:cW P ops Q R tails p a w.drew):(Code.region id ops true).wp P Q a w:=by
 simp only[vm,Bool.and_eq_true] at aK;obtain⟨⟨hs,bE⟩,hp⟩:=aK;refine wp_region_any hm (lq (R:=R) (T:=fun j=>!tails.contains j) _ _ _ _ ?_);refine vr tails t l (Region.noSelect_spec hs) hQ p ops.size _ a _ (fun j g _ be=>?_) hp (fun i I j be=>?_) h
 ·rw[getD_replicate_false] at be;cases be
 ·have ac:=List.all_eq_true.1 bE i I;exact⟨_,List.all_eq_true.1 ac j be⟩
variable {tails:List Nat}
theorem qF{i:Nat}{o:Oper}{v:Value}{rest:PT}{a:Act}{w:World}(I:ops[i]?=some o)(hw:Region.wanted o (yielded ops a.tmps)=true)
  (bD:∀V,R w V→(execOp a.eval o).run P V=.ok (.value v) V) (h:cW P ops Q R tails rest (a.put o.dst v) w):cW P ops Q R tails (.held i rest) a w:=
 ⟨o,v,I,.inl ⟨hw,bD⟩,h⟩
theorem kA{i:Nat}{o:Oper}{v:Value}{rest:PT}{a:Act}{w:World}(I:ops[i]?=some o)(hw:Region.wanted o (yielded ops a.tmps)=true)
  (bD:∀V,(execOp a.eval o).run P V=.ok (.value v) V) (h:cW P ops Q R tails rest (a.put o.dst v) w):cW P ops Q R tails (.free i rest) a w:=
 ⟨o,v,I,.inl ⟨hw,fun V _=>bD V⟩,h⟩
def qG(P:Program)(ops:Array Oper)(Q:Exit→Act→World→Prop)(R:World→World→Prop)(tails:List Nat)(i:Nat)(p:PT)(a:Act)(w:World):Prop:=
 ∃o,ops[i]?=some o∧∀K:Act→World→Prop,(∀q J,(tails.contains i=false→R w J)→cW P ops Q R tails p q J→K q J)→
   (if Region.wanted o (yielded ops a.tmps)=true then o.wp P a w K Q else K (a.put o.dst undef) w)
theorem bD{i:Nat}{o:Oper}{p:PT}{a:Act}{w:World}(I:ops[i]?=some o)
  (h:∀K:Act→World→Prop,(∀q J,R w J→cW P ops Q R tails p q J→K q J)→if Region.wanted o (yielded ops a.tmps)=true then o.wp P a w K Q else K (a.put o.dst undef) w)
  (hT:tails.contains i=false):qG P ops Q R tails i p a w:=⟨o,I,fun K hK=>h K fun q J cq=>hK q J fun _=>cq⟩
theorem ca{i:Nat}{o:Oper}{p:PT}{a:Act}{w:World}(I:ops[i]?=some o)
  (h:∀K:Act→World→Prop,(∀q J,cW P ops Q R tails p q J→K q J)→if Region.wanted o (yielded ops a.tmps)=true then o.wp P a w K Q else K (a.put o.dst undef) w)
  (hT:tails.contains i=true):qG P ops Q R tails i p a w:=⟨o,I,fun K hK=>h K fun q J hp=>hK q J (fun h=>by rw[hT] at h;cases h) hp⟩
theorem aB{i:Nat}{f:Nat→PT}{a:Act}{w:World}(h:qG P ops Q R tails i (f i) a w):cW P ops Q R tails (.pick [i] f) a w:=fun j be=>by
 have:j=i:=by simpa using be
 subst this;exact h
theorem b1{i j:Nat}{f:Nat→PT}{a:Act}{w:World}(h:qG P ops Q R tails i (f i) a w)(ap:qG P ops Q R tails j (f j) a w):cW P ops Q R tails (.pick [i,j] f) a w:=fun k aj=>by
 simp only[List.mem_cons,List.not_mem_nil,or_false] at aj;rcases aj with rfl|rfl
 ·exact h
 ·exact ap
theorem cY{a:Act}{w:World}(h:Q .normal a w):cW P ops Q R tails .stop a w:=h
theorem kB{rest:PT}{aa:Nat→Act}{C:Nat→World→Prop}{G:Prop}(h:(∀g V,C g V→cW P ops Q R tails rest (aa g) V)→G)(key:∀g V,C g V→cW P ops Q R tails rest (aa g) V):G:=h key
end
theorem ae{p:Prop}(h:p):Kl p:=h
theorem C5{a b:Int}{k:IntKind}(h:a=b):Value.int k a=Value.int k b:=by rw[h]
theorem ret_int{a b:Int}{k:IntKind}(h:a=b):Ending.returned (.int k a)=.returned (.int k b):=by rw[h]
theorem ret_bool{a b:Bool}(h:a=b):Ending.returned (.bool a)=.returned (.bool b):=by rw[h]
theorem aX{α:Type}{l:List α}{k:Nat}{x:α}(h:l[k]?=some x):l.take (k+1)=l.take k++[x]:=by
 rw[List.take_add_one,h];rfl
theorem Ep(x y:Int):(if y > x then y else x)=max x y:=by
 by_cases h:x≤y<;>simp[Int.max_def,h]<;>omega
theorem Er(x y:Int):(if y<x then y else x)=min x y:=by
 by_cases h:x≤y<;>simp[Int.min_def,h]<;>omega
theorem fH(P:Program)(w:World)(a:Array TypeId)(t:TypeId)(k u:IntKind)(x y:Int):(Builtin.max_ a t #[.int k x,.int u y]).run P w=.ok (.int k (max x y)) w:=by
 rw[run_max_int2,Ep]
theorem fI(P:Program)(w:World)(a:Array TypeId)(t:TypeId)(k u:IntKind)(x y:Int):(Builtin.min_ a t #[.int k x,.int u y]).run P w=.ok (.int k (min x y)) w:=by
 rw[run_min_int2,Er]
theorem lz{B:Nat}{a w:World}(h:Below B a w)(n:Nat):Below B a (w.drewN n):=⟨h.os,h.tape,h.output,h.size,h.block⟩
def cB{α:Type}(E:World→Nat→α→List Value→Prop)(sz:Nat)(w:World)(B:Nat)(A:Kj)(n:Nat)(l:List α):Prop:=
 l.length=n∧(0<n→∃b o,A=some ⟨b,o,none⟩∧b<B∧∀k x,l[k]?=some x→∃cs:List Value,E w B x cs∧cs.length=sz∧∀j v,cs[j]?=some v→w.cell? ⟨b,o+k*sz+j,none⟩=some v)
section
variable {α:Type} {E:World→Nat→α→List Value→Prop} {sz:Nat} {w J:World} {B F n:Nat} {A:Kj} {l:List α}
theorem cB.c7(A:Kj):cB E sz w B A 0 ([]:List α):=⟨rfl,fun h=>absurd h (by omega)⟩
theorem cB.al(h:cB E sz w B A n l)(O:Below B w J)(ar:∀x cs,E w B x cs→E J B x cs):cB E sz J B A n l:=by
 refine⟨h.1,fun hn=>?_⟩;obtain⟨b,o,bu,H,hc⟩:=h.2 hn;refine⟨b,o,bu,H,fun k x hx=>?_⟩;obtain⟨cs,he,hl,be⟩:=hc k x hx;exact⟨cs,ar _ _ he,hl,fun j v bD=>(O.cell (p:=⟨b,_,none⟩) H).trans (be j v bD)⟩
theorem cB.more(h:cB E sz w B A n l)(aK:B≤F)(ar:∀x cs,E w B x cs→E w F x cs):cB E sz w F A n l:=by
 refine⟨h.1,fun hn=>?_⟩;obtain⟨b,o,bu,H,hc⟩:=h.2 hn;refine⟨b,o,bu,by omega,fun k x hx=>?_⟩;obtain⟨cs,he,hl,be⟩:=hc k x hx;exact⟨cs,ar _ _ he,hl,be⟩
end
def EF{α:Type}(f:α→List Value):World→Nat→α→List Value→Prop:=fun _ _ x cs=>cs=f x
section
variable {α:Type} {f:α→List Value} {sz:Nat} {w J:World} {B F n:Nat} {A:Kj} {l:List α}
theorem cB.ep(h:cB (EF f) sz w B A n l)(O:Below B w J):cB (EF f) sz J B A n l:=h.al O fun _ _ h=>h
theorem cB.HC(h:cB (EF f) sz w B A n l)(aK:B≤F):cB (EF f) sz w F A n l:=h.more aK fun _ _ h=>h
theorem cB.eQ(h:cB (EF f) sz w B A n l)(O:Below B w J)(aK:B≤F):cB (EF f) sz J F A n l:=(h.ep O).HC aK
theorem cB.Hl(h:cB (EF f) sz w B A n l){k:Nat}(aj:k<n) :
  ∃b o x,A=some ⟨b,o,none⟩∧b<B∧l[k]?=some x∧(f x).length=sz∧∀j v,(f x)[j]?=some v→w.cell? ⟨b,o+k*sz+j,none⟩=some v:=by
 obtain⟨b,o,bu,O,hc⟩:=h.2 (by omega);have hm:l[k]?=some (l[k]'(by have:=h.1;omega)):=List.getElem?_eq_getElem _;obtain⟨cs,he,hl,be⟩:=hc k _ hm;rw[EF] at he;subst he;exact⟨b,o,_,bu,O,hm,hl,be⟩
theorem cB.some_(h:cB (EF f) sz w B A n l)(aj:0<n):∃b o,A=some ⟨b,o,none⟩∧b<B:=by
 obtain⟨b,o,bu,O,_⟩:=h.2 aj;exact⟨b,o,bu,O⟩
end
theorem fb{α:Type}(f:α→List Value)(sz:Nat):∀(l:List α),(∀x∈l,(f x).length=sz)→∀k x,l[k]?=some x→∀j,j<sz→(l.flatMap f)[k*sz+j]?=(f x)[j]?
 | [],_,k,x,h,_,_=>by simp at h
 | a::l,hs,0,x,h,j,be=>by
  have bE:=hs a (by simp);simp only[List.getElem?_cons_zero,Option.some.injEq] at h;subst h;simp only[List.flatMap_cons,Nat.zero_mul,Nat.zero_add]
  rw[List.getElem?_append_left (by omega)]
 | a::l,hs,k+1,x,h,j,be=>by
  have bE:=hs a (by simp);simp only[List.getElem?_cons_succ] at h;have ab:=fb f sz l (fun y aa=>hs y (by simp[aa])) k x h j be;simp only[List.flatMap_cons];rw[List.getElem?_append_right (by rw[bE,Nat.succ_mul];omega),bE,←ab];congr 1
  rw[Nat.succ_mul];omega
theorem fF{α:Type}(f:α→List Value)(sz:Nat)(l:List α)(hs:∀x∈l,(f x).length=sz):(l.flatMap f).length=l.length*sz:=by
 induction l with
 | nil=>simp
 | cons a l ab=>
  rw[List.flatMap_cons,List.length_append,hs a (by simp),ab (fun x hx=>hs x (by simp[hx])),List.length_cons,Nat.succ_mul];omega
theorem cj{w:World}{base:Nat}{e:TypeId}{sz:Nat}{v:Value}{n:Nat}{xs:List Value}(h:w.ownsRow base e sz v n xs) :
  ∃A c,v=.slice A n c∧n≤c∧c≤maxLen∧(A=none→n=0∧c=0)∧∀a,A=some a→∃g,a=⟨g,0,none⟩∧base≤g∧g<w.heap.size:=by
 rcases h.2 with⟨rfl,rfl⟩|⟨g,cap,cur,rfl,O,aS,hn,hc,_⟩
 ·exact⟨none,0,rfl,Nat.le_refl _,by simp,fun _=>⟨rfl,rfl⟩,fun _ h=>nomatch h⟩
 ·exact⟨_,_,rfl,hn,hc,(fun h=>nomatch h),fun a h=>(by injection h with h;exact⟨g,h.symm,O,(Array.getElem?_eq_some_iff.1 aS).1⟩)⟩
theorem iV{α:Type}{f:α→List Value}{w:World}{base:Nat}{e:TypeId}{sz:Nat}{A:Kj}{n c:Nat}{l:List α}
  (h:w.ownsRow base e sz (.slice A n c) n (l.flatMap f)) (hs:∀x∈l,(f x).length=sz) (hl:l.length=n):cB (EF f) sz w w.heap.size A n l:=by
 refine⟨hl,fun hn=>?_⟩;rcases h.2 with⟨bD,h0⟩|⟨g,cap,cur,bD,_,aS,a7,_,aB,a⟩
 ·omega
 ·injection bD with bu _ _;subst bu;refine⟨g,0,rfl,(Array.getElem?_eq_some_iff.1 aS).1,fun k x hx=>⟨f x,rfl,hs x (List.mem_of_getElem? hx),fun j v be=>?_⟩⟩;have r:j<sz:=by
   have:=hs x (List.mem_of_getElem? hx);have:=(List.getElem?_eq_some_iff.1 be).1;omega
  have aT:k<l.length:=(List.getElem?_eq_some_iff.1 hx).1;have b3:=fb f sz l hs k x hx j r;rw[be,←a,List.getElem?_take] at b3;split at b3
  ·rw[cell_of_row w g _ cur e (0,0) aS,Nat.zero_add];simpa using b3
  ·cases b3
theorem xo{w J:World}{base B:Nat}{e:TypeId}{sz:Nat}{v:Value}{n:Nat}{xs:List Value}(h:w.ownsRow base e sz v n xs)(O:Below B w J)(aK:∀g,v.ownBlock=some g→g<B):J.ownsRow base e sz v n xs:=by
 refine⟨h.1,?_⟩;rcases h.2 with ap|⟨g,cap,cur,rfl,j,aS,rest⟩
 ·exact .inl ap
 ·exact .inr ⟨g,cap,cur,rfl,j,(O.block g (aK g rfl)).trans aS,rest⟩
theorem bT{w J:World}{base:Nat}{e:TypeId}{sz:Nat}{v:Value}{n:Nat}{xs:List Value}(h:w.ownsRow base e sz v n xs)(O:Below w.heap.size w J):J.ownsRow base e sz v n xs:=
 xo h O fun g aS=>(h.lt g aS).2
theorem hj{w:World}{base:Nat}{e:TypeId}{sz:Nat}{A:Kj}{n c:Nat}{xs:List Value}(h:w.ownsRow base e sz (.slice A n c) n xs)(hn:0<n) :
  ∃g,A=some ⟨g,0,none⟩∧base≤g∧g<w.heap.size∧(∀j u,xs[j]?=some u→w.cell? ⟨g,j,none⟩=some u)∧(∀j,w.frozen? ⟨g,j,none⟩=false)∧
   ∀j u,j<n*sz→(w.setCell ⟨g,j,none⟩ u).ownsRow base e sz (.slice A n c) n (xs.set j u):=by
 rcases h.2 with⟨bD,h0⟩|⟨g,cap,cur,bD,O,aS,a7,v,aB,a⟩
 ·omega
 ·injection bD with bu _ hc;subst bu hc;refine⟨g,rfl,O,(Array.getElem?_eq_some_iff.1 aS).1,fun j u hu=>?_,fun j=>?_,fun j u be=>⟨by rw[List.length_set];exact h.1,.inr ⟨g,c,cur.setIfInBounds j u,rfl,O,?_,a7,v,by simpa using aB,?_⟩⟩⟩
  ·rw[←a,List.getElem?_take] at hu;split at hu
   ·rw[cell_of_row w g j cur e (0,0) aS];simpa using hu
   ·cases hu
  ·simp[World.frozen?,aS]
  ·simp[World.setCell,Array.getElem?_modify,aS]
  ·rw[←a,Array.toList_setIfInBounds,List.take_set]
theorem jj{α:Type}(f:α→List Value)(sz:Nat):∀(l:List α),(∀x∈l,(f x).length=sz)→∀k x,l[k]?=some x→∀j u y,j<sz→(f x).set j u=f y→(l.flatMap f).set (k*sz+j) u=(l.set k y).flatMap f
 | [],_,k,x,h,_,_,_,_,_=>by simp at h
 | a::l,hs,0,x,h,j,u,y,be,aa=>by
  have bE:=hs a (by simp);simp only[List.getElem?_cons_zero,Option.some.injEq] at h;subst h;simp only[List.flatMap_cons,Nat.zero_mul,Nat.zero_add,List.set_cons_zero]
  rw[List.set_append_left _ _ (by omega),aa]
 | a::l,hs,k+1,x,h,j,u,y,be,aa=>by
  have bE:=hs a (by simp);simp only[List.getElem?_cons_succ] at h;have ab:=jj f sz l (fun y aa=>hs y (by simp[aa])) k x h j u y be aa;simp only[List.flatMap_cons,List.set_cons_succ];rw[List.set_append_right _ _ (by rw[bE,Nat.succ_mul];omega),bE,←ab];congr 2
  rw[Nat.succ_mul];omega
theorem qw{P:Program}(w:World)(t e:TypeId)(a:Kj)(n c aQ aW:Nat)(h:P.underlying t=some (.slice e)) :
  (binOp .eql t (.slice a n c) (.slice none aQ aW)).run P w=.ok (.bool a.isNone) w:=by
 have key:∀d:Nat,(Op.equalIn (d+1) t (.slice a n c) (.slice none aQ aW)).run P w=.ok a.isNone w:=fun d=>by
  rcases a with _|a<;>simp[Op.equalIn,run_underlying h]
 simp only[binOp];simp[Op.equal,Op.maxDepth,key 9999]
def Src(w:World)(sz:Nat)(A:Kj)(m:Nat)(news:List Value):Prop:=
 news.length=m*sz∧(∀u∈news,u.oneCell'=true)∧(0<m→∃b o,A=some ⟨b,o,none⟩∧∀j u,news[j]?=some u→w.cell? ⟨b,o+j,none⟩=some u)
theorem Src.one{w:World}{b:Nat}{u:Value}(h:w.cell? ⟨b,0,none⟩=some u)(ac:u.oneCell'=true):Src w 1 (some ⟨b,0,none⟩) 1 [u]:=
 ⟨rfl,by simpa using ac,fun _=>⟨b,0,rfl,fun j v be=>by
  cases j with
  | zero=>simp at be;subst be;exact h
  | succ j=>simp at be⟩⟩
theorem Src.block{w:World}{g:Nat}{e:TypeId}{xs:Array Value}{sz:Nat}(aS:w.heap[g]?=some (.cells xs e (0,0)))(m:Nat)(hm:xs.size=m*sz)(ac:∀u∈xs.toList,u.oneCell'=true) :
  Src w sz (some ⟨g,0,none⟩) m xs.toList:=
 ⟨by simpa using hm,ac,fun _=>⟨g,0,rfl,fun j u be=>by
  rw[Nat.zero_add,cell_of_row w g j xs e (0,0) aS];simpa using be⟩⟩
theorem Src.kL{α:Type}{f:α→List Value}{sz:Nat}{w:World}{B n:Nat}{A:Kj}{l:List α}(h:cB (EF f) sz w B A n l)(hs:∀x∈l,(f x).length=sz)(ac:∀x∈l,∀u∈f x,u.oneCell'=true)(bi:0<sz) :
  Src w sz A n (l.flatMap f):=by
 refine⟨by rw[fF f sz l hs,h.1],fun u hu=>?_,fun hn=>?_⟩
 ·obtain⟨x,hx,hu⟩:=List.mem_flatMap.1 hu;exact ac x hx u hu
 ·obtain⟨b,o,bu,_,hc⟩:=h.2 hn;refine⟨b,o,bu,fun j u be=>?_⟩;have bF:=(List.getElem?_eq_some_iff.1 be).1;rw[fF f sz l hs] at bF;have aT:j / sz<l.length:=by rw[Nat.div_lt_iff_lt_mul bi];exact bF
  have hx:l[j / sz]?=some (l[j / sz]'aT):=List.getElem?_eq_getElem aT;have d:=Nat.mod_lt j bi;have a:j / sz*sz+j % sz=j:=Nat.div_add_mod' j sz;have b3:=fb f sz l hs _ _ hx (j % sz) d;rw[a,be] at b3;obtain⟨cs,he,_,c⟩:=hc _ _ hx;rw[EF] at he;subst he;have:=c _ _ b3.symm
  rwa [Nat.add_assoc,a] at this
def cA(P:Program)(t e:TypeId)(z:Value)(size bytes:Nat):Prop:=
 ∃i,P.underlying t=some (.slice e)∧P.info? e=some i∧i.zero=some z∧i.size=size∧i.bytes=bytes∧z.cells.size=size∧0<size
theorem cA.mk'{P:Program}{t e:TypeId}{z:Value}{size bytes:Nat}(ht:P.underlying t=some (.slice e))(I:(P.info? e).map (fun i=>(i.zero,i.size,i.bytes))=some (some z,size,bytes))(bi:z.cells.size=size)(h0:0<size):cA P t e z size bytes:=by
 obtain⟨i,ac,ap,aD,bt⟩:=info_parts I;exact⟨i,ht,ac,ap,aD,bt,bi,h0⟩
section
variable {P:Program} (w:World)
theorem sU(base:Nat)(t ty e:TypeId)(i:TypeInfo)(size:Nat)(ht:P.underlying t=some (.slice e))(I:P.info? e=some i)
  (v:Value) (n:Nat) (xs:List Value) (aE:w.ownsRow base e size v n xs) (c:Nat):(Builtin.append_ #[t,t] ty #[v,.slice none 0 c]).run P w=.ok v w:=by
 rcases aE.2 with⟨rfl,rfl⟩|⟨g,cap,cur,rfl,_,_,a7,_⟩
 ·simp[Builtin.append_,run_underlying ht,sizeOf,typeInfo,I,Builtin.lenOf,Builtin.firstCells]
 ·simp[Builtin.append_,run_underlying ht,sizeOf,typeInfo,I,Builtin.lenOf,Builtin.firstCells,a7,storeCells]
theorem EU{t e:TypeId}{z:Value}{size bytes:Nat}(bu:cA P t e z size bytes)(base:Nat)(ty:TypeId)(v:Value)(n:Nat)(xs:List Value)(aE:w.ownsRow base e size v n xs)
  (A:Kj) (m c:Nat) (news:List Value) (hs:Src w size A m news) (y:(n+m)*bytes≤140737488355328) (G:n+m≤140737488355328) (C:base≤w.heap.size) (d:A=none→m=0) :
  ∃H J,(Builtin.append_ #[t,t] ty #[v,.slice A m c]).run P w=.ok H J∧J.ownsRow base e size H (n+m) (xs++news)∧w.grownBy J v.ownBlock∧
   (H.ownBlock=v.ownBlock∨H.ownBlock=some w.heap.size):=by
 obtain⟨i,ht,I,bi,g,S,cF,bH⟩:=bu;rcases A with _|a
 ·have hm:=d rfl;subst hm;have hn:news=[]:=List.eq_nil_of_length_eq_zero (by simpa using hs.1);subst hn;exact⟨v,w,sU w base t ty e i size ht I v n xs aE c,by simpa using aE,World.grownBy.refl w _,.inl rfl⟩
 ·have p:∀j u,news[j]?=some u→w.cell? (a.add j)=some u:=by
   intro j u hu;rcases Nat.eq_zero_or_pos m with h0|h0
   ·subst h0;have hn:news=[]:=List.eq_nil_of_length_eq_zero (by simpa using hs.1);subst hn;simp at hu
   ·obtain⟨b,o,h,hc⟩:=hs.2.2 h0;injection h with h;subst h;have:=hc j u hu;by_cases be:j=0
    ·subst be;simpa[Addr.add] using this
    ·simpa[Addr.add,be] using this
  obtain⟨H,J,k,ap,aD,_,cl⟩:=run_append_own_at (P:=P) w base t ty e i z size bytes ht I bi g S cF bH v n xs aE a m c news hs.1 p hs.2.1 (by simp only[maxLen];omega) y C;exact⟨H,J,k,ap,aD,cl⟩
theorem ka{o:Oper}{a:Act}{K:Act→World→Prop}{Q:Exit→Act→World→Prop}{t e:TypeId}{z:Value}{size bytes:Nat}(bu:cA P t e z size bytes)(s x:Operand)
  (bb:o.op=.call {callee:=.builtin .append,args:=#[s,x],argTypes:=#[t,t]})
  (base:Nat) (v:Value) (n:Nat) (xs:List Value) (hs:a.eval s=v) (aE:w.ownsRow base e size v n xs)
  (A:Kj) (m c:Nat) (news:List Value) (hx:a.eval x=.slice A m c) (aZ:Src w size A m news)
  (y:(n+m)*bytes≤140737488355328) (G:n+m≤140737488355328) (C:base≤w.heap.size) (d:A=none→m=0)
  (h:∀H J,J.ownsRow base e size H (n+m) (xs++news)→w.grownBy J v.ownBlock→(H.ownBlock=v.ownBlock∨H.ownBlock=some w.heap.size)→K (a.put o.dst H) J):o.wp P a w K Q:=by
 obtain⟨H,J,k,ap,aD,bt⟩:=EU (P:=P) w bu base o.type v n xs aE A m c news aZ y G C d;unfold Oper.wp execOp;simp only[bb,resolve,invoke,builtin,Sem.run_bind,Sem.run_pure,Result.andThen_ok,List.map_toArray,List.map_cons,List.map_nil,hs,hx,k];exact h H J ap aD bt
theorem pr{ops:Array Oper}{rest:List Oper}{o:Oper}{a:Act}{Q:Exit→Act→World→Prop}{t e:TypeId}{z:Value}{size bytes:Nat}(bu:cA P t e z size bytes)(i:o.guard=none)(s x:Operand)
  (bb:o.op=.call {callee:=.builtin .append,args:=#[s,x],argTypes:=#[t,t]})
  (base:Nat) (v:Value) (n:Nat) (xs:List Value) (hs:a.eval s=v) (aE:w.ownsRow base e size v n xs)
  (A:Kj) (m c:Nat) (news:List Value) (hx:a.eval x=.slice A m c) (aZ:Src w size A m news)
  (y:(n+m)*bytes≤140737488355328) (G:n+m≤140737488355328) (C:base≤w.heap.size) (d:A=none→m=0)
  (h:∀H J,J.ownsRow base e size H (n+m) (xs++news)→w.grownBy J v.ownBlock→(H.ownBlock=v.ownBlock∨H.ownBlock=some w.heap.size)→wpList P ops Q rest (a.put o.dst H) J):wpList P ops Q (o::rest) a w:=
 wpList_plain i fun _ hK=>ka w bu s x bb base v n xs hs aE A m c news hx aZ y G C d fun H J ap aD bt=>hK _ _ (h H J ap aD bt)
end
theorem eA{P:Program}(r:World){ops:Array Oper}{rest:List Oper}{o:Oper}{a:Act}{Q:Exit→Act→World→Prop}{t e:TypeId}{z:Value}{size bytes:Nat}(bu:cA P t e z size bytes)(i:o.guard=none)(s x:Operand)
  (bb:o.op=.call {callee:=.builtin .append,args:=#[s,x],argTypes:=#[t,t]})
  (base:Nat) (v:Value) (n:Nat) (xs:List Value) (cs:Array Value) (hs:a.eval s=v) (aE:r.ownsRow base e size v n xs)
  (hx:a.eval x=.slice (some ⟨r.heap.size,0,none⟩) 1 1) (aB:cs.size=size) (ac:∀u∈cs.toList,u.oneCell'=true)
  (y:(n+1)*bytes≤140737488355328) (G:n+1≤140737488355328) (C:base≤r.heap.size)
  (h:∀H J,J.ownsRow base e size H (n+1) (xs++cs.toList)→r.grownBy J v.ownBlock→(H.ownBlock=v.ownBlock∨H.ownBlock=some (r.heap.size+1))→wpList P ops Q rest (a.put o.dst H) J):wpList P ops Q (o::rest) a (r.alloc (.cells cs e)):=by
 refine pr _ bu i s x bb base v n xs hs (aE.alloc _) _ 1 1 cs.toList hx (Src.block (heap_alloc_new r _) 1 (by omega) ac) y G (by simp;omega) (fun h=>nomatch h) fun H J ap aD bt=>?_;refine h H J ap ⟨aD.os,aD.tape,aD.output,by have:=aD.size;simp at this;omega,fun k aj aH=>(aD.block k (by simp;omega) aH).trans (Below.heap_alloc r _ k aj)⟩ ?_;simpa using bt
theorem Src.on{w J:World}{sz m:Nat}{A:Kj}{news:List Value}(h:Src w sz A m news)(O:Below w.heap.size w J):Src J sz A m news:=by
 refine⟨h.1,h.2.1,fun hm=>?_⟩;obtain⟨b,o,bu,hc⟩:=h.2.2 hm;refine⟨b,o,bu,fun j u be=>?_⟩;have c:=hc j u be;exact(O.cell (p:=⟨b,o+j,none⟩) (World.block_lt_of_cell? w _ c)).trans c
theorem fu{P:Program}(r:World){ops:Array Oper}{rest:List Oper}{o:Oper}{a:Act}{Q:Exit→Act→World→Prop}{t e:TypeId}{z:Value}{size bytes:Nat}(bu:cA P t e z size bytes)(i:o.guard=none)(s x:Operand)
  (bb:o.op=.call {callee:=.builtin .append,args:=#[s,x],argTypes:=#[t,t]})
  (hs:a.eval s=.slice (some ⟨r.heap.size,0,none⟩) 0 0) (A:Kj) (m c:Nat) (news:List Value) (hx:a.eval x=.slice A m c) (aZ:Src r size A m news)
  (y:m*bytes≤140737488355328) (G:m≤140737488355328) (d:A=none→m=0)
  (h:∀a1 aW J,J.ownsRow r.heap.size e size (.slice a1 m aW) m news→Below r.heap.size r J→wpList P ops Q rest (a.put o.dst (.slice a1 m aW)) J):wpList P ops Q (o::rest) a (r.alloc (.cells #[] e)):=by
 have aE:(r.alloc (.cells #[] e)).ownsRow r.heap.size e size (.slice (some ⟨r.heap.size,0,none⟩) 0 0) 0 []:=World.ownsRow_made r #[] 0 (Nat.le_refl _) (Nat.zero_le _) (by simp);refine pr _ bu i s x bb r.heap.size _ 0 [] hs aE A m c news hx (aZ.on ((Below.refl _ _).alloc (Nat.le_refl _) _)) (by rw[Nat.zero_add];exact y) (by omega) (by simp) d fun H J ap aD bt=>?_;simp only[Nat.zero_add,List.nil_append] at ap;have O:Below r.heap.size r J:=((Below.refl _ _).alloc (Nat.le_refl _) _).grown aD (by simp) (by simp[Value.ownBlock]);obtain⟨a1,aW,rfl,_⟩:=cj ap;exact h a1 aW J ap O
theorem hf{B:Nat}{a w J:World}{base:Nat}{e:TypeId}{sz:Nat}{v:Value}{n:Nat}{xs:List Value}(h:Below B a w)(aE:w.ownsRow base e sz v n xs)(aS:w.grownBy J v.ownBlock)(aK:B≤base)(bS:B≤w.heap.size):Below B a J:=
 h.grown aS bS fun k aj=>Nat.le_trans aK (aE.lt k aj).1
section
variable {P:Program} {t e:TypeId} {z:Value} {size bytes:Nat}
theorem run_mk(bu:cA P t e z size bytes)(kl kc:IntKind)(n:Nat)(O:bytes*n≤281474976710656)(G:n≤281474976710656)(w:World) :
  (Instr.makeSlice t (.int kl (n:Int)) (.int kc (n:Int))).run P w=.ok (.slice (some ⟨w.heap.size,0,none⟩) n n) (w.alloc (.cells (madeCells z.cells (n*size)) e)):=by
 obtain⟨i,ht,I,bi,g,S,cF,bH⟩:=bu;have a:(i.bytes:Int)*(n:Int)≤281474976710656:=by
  have h:((i.bytes*n:Nat):Int)≤281474976710656:=by rw[S];omega
  rwa [Int.natCast_mul] at h
 have aZ:=run_make (P:=P) w t e i z ht I bi kl kc n n (by omega) (by omega) a (by omega);simp only[Int.toNat_natCast] at aZ;rw[aZ,g]
theorem qk{α:Type}{f:α→List Value}{x:α}{zc:Array Value}{sz:Nat}(bi:zc.toList=f x)(hs:(f x).length=sz)(h0:0<sz)(n:Nat):(madeCells zc (n*sz)).toList=(List.replicate n x).flatMap f:=by
 have cF:zc.size=sz:=by rw[←Array.length_toList,bi,hs]
 apply List.ext_getElem?
 intro j;by_cases be:j<n*sz
 ·have aj:j / sz<n:=by rw[Nat.div_lt_iff_lt_mul h0];exact be
  have hm:=Nat.mod_lt j h0;have hx:(List.replicate n x)[j / sz]?=some x:=by rw[List.getElem?_replicate,if_pos aj]
  have:=fb f sz (List.replicate n x) (fun y aa=>by rw[(List.mem_replicate.1 aa).2];exact hs) _ _ hx _ hm;rw[Nat.div_add_mod'] at this;rw[this,←bi];have a:j % zc.size<zc.size:=by rw[cF];exact hm
  simp only[madeCells,Array.getElem?_toList,Array.getElem?_map,Array.getElem?_range,be,if_pos,Option.map_some];rw[←cF,getElem!_pos zc _ a,Array.getElem?_eq_getElem a]
 ·rw[List.getElem?_eq_none (by rw[Array.length_toList,size_madeCells];omega),List.getElem?_eq_none (by rw[fF f sz _ (fun y aa=>by rw[(List.mem_replicate.1 aa).2];exact hs),List.length_replicate];omega)]
theorem rC{α:Type}{f:α→List Value}{x:α}{zc:Array Value}{sz:Nat}(bi:zc.toList=f x)(hs:(f x).length=sz)(h0:0<sz)(n:Nat)(hn:n≤281474976710656){w:World}{base:Nat}(O:base≤w.heap.size) :
  (w.alloc (.cells (madeCells zc (n*sz)) e)).ownsRow base e sz (.slice (some ⟨w.heap.size,0,none⟩) n n) n ((List.replicate n x).flatMap f):=by
 rw[←qk bi hs h0 n];exact World.ownsRow_lit w _ n O (by unfold maxLen;omega) (size_madeCells _ _)
end
def dr(x:Int):List Value:=[.int .i64 x]
def m6(x:ByteArray):List Value:=[.string x]
theorem cB.int{w:World}{B n:Nat}{A:Kj}{l:List Int}(h:cB (EF dr) 1 w B A n l){k:Nat}(aj:k<n) :
  ∃b o x,A=some ⟨b,o,none⟩∧b<B∧l[k]?=some x∧w.cell? ⟨b,o+k,none⟩=some (.int .i64 x):=by
 obtain⟨b,o,x,bu,O,hx,_,hc⟩:=h.Hl aj;have:=hc 0 _ rfl;simp only[Nat.mul_one,Nat.add_zero] at this;exact⟨b,o,x,bu,O,hx,this⟩
theorem cB.str{w:World}{B n:Nat}{A:Kj}{l:Kk}(h:cB (EF m6) 1 w B A n l){k:Nat}(aj:k<n) :
  ∃b o x,A=some ⟨b,o,none⟩∧b<B∧l[k]?=some x∧w.cell? ⟨b,o+k,none⟩=some (.string x):=by
 obtain⟨b,o,x,bu,O,hx,_,hc⟩:=h.Hl aj;have:=hc 0 _ rfl;simp only[Nat.mul_one,Nat.add_zero] at this;exact⟨b,o,x,bu,O,hx,this⟩
theorem si(l:List Int):l.flatMap dr=l.map (Value.int .i64):=by
 induction l with
 | nil=>rfl
 | cons a l ab=>rw[List.flatMap_cons,ab];rfl
theorem pI(l:List Int)(x:Int):(l++[x]).flatMap dr=l.flatMap dr++[.int .i64 x]:=by
 rw[List.flatMap_append];rfl
theorem Dk(k:IntKind)(x:Int):∀u∈(#[Value.int k x]:Array Value).toList,u.oneCell'=true:=by
 intro u hu;simp at hu;subst hu;rfl
theorem iP(l:List Int):∀x∈l,(dr x).length=1:=fun _ _=>rfl
theorem row_slr{k:IntKind}{w:World}{a:Kj}{len cap:Nat}{d:List Int}
  (h:(a=none∧len=0∧cap=0∧d=[])∨∃x,a=some x∧len≤cap∧cap≤maxLen∧d.length=cap∧(∀i,i<d.length→w.cell? (x.add i)=some (.int k (d.getD i 0)))∧∀n∈d,(Lit.int k n).wf=true) (aj:k=.i64) :
  cB (EF dr) 1 w w.heap.size a len (d.take len):=by
 subst aj;rcases h with⟨rfl,rfl,rfl,rfl⟩|⟨x,rfl,aS,_,bi,hc,_⟩
 ·exact cB.c7 _
 ·refine⟨by simp;omega,fun hn=>?_⟩;have h0:=hc 0 (by omega);have hx:x.spot=none:=by
   have ac:w.cell? x=some (.int .i64 (d.getD 0 0)):=by simpa[Addr.add] using h0
   cases hs:x.spot with
   | none=>rfl
   | some s=>
    rw[World.cell?] at ac;split at ac
    ·rw[hs] at ac;simp at ac
    ·cases ac
  have bB:=World.block_lt_of_cell? w _ h0;refine⟨x.block,x.off,by rw[←hx],by simpa[Addr.add] using bB,fun j v be=>⟨dr v,rfl,rfl,fun i u hu=>?_⟩⟩;have bF:=(List.getElem?_eq_some_iff.1 be).1;rw[List.length_take] at bF;have c:=hc j (by omega);rw[List.getElem?_take] at be;split at be
  ·have bD:d.getD j 0=v:=by rw[List.getD_eq_getElem?_getD,be];rfl
   rw[bD] at c;have I:i=0∧u=.int .i64 v:=by
    cases i with
    | zero=>simp[dr] at hu;exact⟨rfl,hu.symm⟩
    | succ i=>simp[dr] at hu
   obtain⟨rfl,rfl⟩:=I;have bE:x.add j=⟨x.block,x.off+j*1+0,none⟩:=by
    rw[Nat.mul_one,Nat.add_zero];unfold Addr.add;split
    ·rename_i b;rw[b,Nat.add_zero,←hx]
    ·rfl
   rw[bE] at c;exact c
  ·cases be
theorem eK:cA prog 22 3 (.int .i64 0) 1 8:=cA.mk' Tryz.underlying22 (by kernel_rfl) rfl (by omega)
inductive D where
 | i (n:Int)
 | b (x:Bool)
 | s (x:ByteArray)
 | st (l:List D)
 | sl (l:List D)
mutual
def D.rep(w:World)(P:Nat→Prop):D→List Value→Prop
 | .i n=>fun cs=>cs=[.int .i64 n]
 | .b x=>fun cs=>cs=[.bool x]
 | .s x=>fun cs=>cs=[.string x]
 | .st l=>fun cs=>D.aR w P l cs
 | .sl l=>fun cs=>∃A c,cs=[.slice A l.length c]∧l.length≤c∧(0<l.length→∃b o xs,A=some ⟨b,o,none⟩∧P b∧D.aR w P l xs∧∀j u,xs[j]?=some u→w.cell? ⟨b,o+j,none⟩=some u)
def D.aR(w:World)(P:Nat→Prop):List D→List Value→Prop
 | []=>fun cs=>cs=[]
 | d::l=>fun cs=>∃x y,cs=x++y∧D.rep w P d x∧D.aR w P l y
end
mutual
def D.sz:D→Nat
 | .i _=>1
 | .b _=>1
 | .s _=>1
 | .st l=>D.xL l
 | .sl _=>1
def D.xL:List D→Nat
 | []=>0
 | d::l=>D.sz d+D.xL l
end
mutual
theorem D.lU{w:World}{P:Nat→Prop}:∀(d:D) (cs:List Value),d.rep w P cs→cs.length=d.sz
 | .i n,cs,h=>by simp only[D.rep] at h;subst h;rfl
 | .b x,cs,h=>by simp only[D.rep] at h;subst h;rfl
 | .s x,cs,h=>by simp only[D.rep] at h;subst h;rfl
 | .st l,cs,h=>by simp only[D.rep] at h;simp only[D.sz];exact D.h5 l cs h
 | .sl l,cs,h=>by simp only[D.rep] at h;obtain⟨A,c,rfl,_⟩:=h;rfl
theorem D.h5{w:World}{P:Nat→Prop}:∀(l:List D) (cs:List Value),D.aR w P l cs→cs.length=D.xL l
 | [],cs,h=>by simp only[D.aR] at h;subst h;rfl
 | d::l,cs,h=>by
  simp only[D.aR] at h;obtain⟨x,y,rfl,hx,aa⟩:=h;simp only[D.xL,List.length_append,D.lU d x hx,D.h5 l y aa]
end
mutual
theorem D.aD{w J:World}{P:Nat→Prop}(aj:∀b,P b→J.heap[b]?=w.heap[b]?):∀(d:D) (cs:List Value),d.rep w P cs→d.rep J P cs
 | .i n,cs,h=>by simpa only[D.rep] using h
 | .b x,cs,h=>by simpa only[D.rep] using h
 | .s x,cs,h=>by simpa only[D.rep] using h
 | .st l,cs,h=>by simp only[D.rep] at h ⊢;exact D.bY aj l cs h
 | .sl l,cs,h=>by
  simp only[D.rep] at h ⊢;obtain⟨A,c,aB,hc,hn⟩:=h;refine⟨A,c,aB,hc,fun h0=>?_⟩;obtain⟨b,o,xs,bu,O,aZ,be⟩:=hn h0;exact⟨b,o,xs,bu,O,D.bY aj l xs aZ,fun j u hu=>(World.cell?_of_block (w:=w) (aj b O)).trans (be j u hu)⟩
theorem D.bY{w J:World}{P:Nat→Prop}(aj:∀b,P b→J.heap[b]?=w.heap[b]?):∀(l:List D) (cs:List Value),D.aR w P l cs→D.aR J P l cs
 | [],cs,h=>by simpa only[D.aR] using h
 | d::l,cs,h=>by
  simp only[D.aR] at h ⊢;obtain⟨x,y,rfl,hx,aa⟩:=h;exact⟨x,y,rfl,D.aD aj d x hx,D.bY aj l y aa⟩
end
mutual
theorem D.aA{w:World}{P c5:Nat→Prop}(hp:∀b,P b→c5 b):∀(d:D) (cs:List Value),d.rep w P cs→d.rep w c5 cs
 | .i n,cs,h=>by simpa only[D.rep] using h
 | .b x,cs,h=>by simpa only[D.rep] using h
 | .s x,cs,h=>by simpa only[D.rep] using h
 | .st l,cs,h=>by simp only[D.rep] at h ⊢;exact D.bZ hp l cs h
 | .sl l,cs,h=>by
  simp only[D.rep] at h ⊢;obtain⟨A,c,aB,hc,hn⟩:=h;refine⟨A,c,aB,hc,fun h0=>?_⟩;obtain⟨b,o,xs,bu,O,aZ,be⟩:=hn h0;exact⟨b,o,xs,bu,hp b O,D.bZ hp l xs aZ,be⟩
theorem D.bZ{w:World}{P c5:Nat→Prop}(hp:∀b,P b→c5 b):∀(l:List D) (cs:List Value),D.aR w P l cs→D.aR w c5 l cs
 | [],cs,h=>by simpa only[D.aR] using h
 | d::l,cs,h=>by
  simp only[D.aR] at h ⊢;obtain⟨x,y,rfl,hx,aa⟩:=h;exact⟨x,y,rfl,D.aA hp d x hx,D.bZ hp l y aa⟩
end
mutual
theorem D.rF{w:World}{P:Nat→Prop}:∀(d:D) (cs:List Value),d.rep w P cs→∀u∈cs,u.oneCell'=true
 | .i n,cs,h=>by simp only[D.rep] at h;subst h;simp[Value.oneCell']
 | .b x,cs,h=>by simp only[D.rep] at h;subst h;simp[Value.oneCell']
 | .s x,cs,h=>by simp only[D.rep] at h;subst h;simp[Value.oneCell']
 | .st l,cs,h=>by simp only[D.rep] at h;exact D.oW l cs h
 | .sl l,cs,h=>by simp only[D.rep] at h;obtain⟨A,c,rfl,_⟩:=h;simp[Value.oneCell']
theorem D.oW{w:World}{P:Nat→Prop}:∀(l:List D) (cs:List Value),D.aR w P l cs→∀u∈cs,u.oneCell'=true
 | [],cs,h=>by simp only[D.aR] at h;subst h;simp
 | d::l,cs,h=>by
  simp only[D.aR] at h;obtain⟨x,y,rfl,hx,aa⟩:=h;intro u hu;rcases List.mem_append.1 hu with hu|hu
  ·exact D.rF d x hx u hu
  ·exact D.oW l y aa u hu
end
theorem D.cw{w:World}{P:Nat→Prop}:∀{l m:List D} {x y:List Value},D.aR w P l x→D.aR w P m y→D.aR w P (l++m) (x++y)
 | [],m,x,y,hx,aa=>by simp only[D.aR] at hx;subst hx;exact aa
 | d::l,m,x,y,hx,aa=>by
  simp only[D.aR,List.cons_append] at hx ⊢;obtain⟨a,c,rfl,bE,hc⟩:=hx;exact⟨a,c++y,by rw[List.append_assoc],bE,D.cw hc aa⟩
theorem D.k9{w:World}{P:Nat→Prop}:∀{l m:List D} {x:List Value},D.aR w P (l++m) x→∃y z,x=y++z∧D.aR w P l y∧D.aR w P m z
 | [],m,x,h=>⟨[],x,rfl,by simp only[D.aR],h⟩
 | d::l,m,x,h=>by
  simp only[D.aR,List.cons_append] at h;obtain⟨a,c,rfl,bE,hc⟩:=h;obtain⟨y,z,rfl,aa,bi⟩:=D.k9 hc;exact⟨a++y,z,by rw[List.append_assoc],by simp only[D.aR];exact⟨a,y,rfl,bE,aa⟩,bi⟩
theorem D.bt{w:World}{P:Nat→Prop}{d:D}{x:List Value}:D.aR w P [d] x↔d.rep w P x:=by
 simp only[D.aR];constructor
 ·rintro⟨a,b,rfl,bE,rfl⟩;simpa using bE
 ·intro h;exact⟨x,[],by simp,h,rfl⟩
theorem D.hq{z:Nat}:∀{l:List D},(∀d∈l,d.sz=z)→D.xL l=l.length*z
 | [],_=>by simp[D.xL]
 | d::l,h=>by
  have ab:D.xL l=l.length*z:=D.hq (fun x hx=>h x (List.mem_cons_of_mem _ hx));simp only[D.xL,List.length_cons,Nat.succ_mul,h d (List.mem_cons_self),ab];omega
theorem D.nB{w:World}{P:Nat→Prop}{z:Nat}:∀{l:List D} {xs:List Value},D.aR w P l xs→(∀d∈l,d.sz=z)→∀{k:Nat} {d:D},l[k]?=some d→
  ∃cs,d.rep w P cs∧cs.length=z∧∀j u,cs[j]?=some u→xs[k*z+j]?=some u
 | [],xs,_,_,k,d,aj=>by simp at aj
 | e::l,xs,h,bi,0,d,aj=>by
  simp only[D.aR] at h;obtain⟨x,y,rfl,hx,_⟩:=h;simp only[List.getElem?_cons_zero,Option.some.injEq] at aj;subst aj;refine⟨x,hx,(D.lU _ _ hx).trans (bi e (by simp)),fun j u hu=>?_⟩;rw[Nat.zero_mul,Nat.zero_add,List.getElem?_append_left (List.getElem?_eq_some_iff.1 hu).1]
  exact hu
 | e::l,xs,h,bi,k+1,d,aj=>by
  simp only[D.aR] at h;obtain⟨x,y,rfl,hx,aa⟩:=h;simp only[List.getElem?_cons_succ] at aj;obtain⟨cs,aZ,hl,be⟩:=D.nB aa (fun x hx=>bi x (by simp[hx])) aj;have aK:=(D.lU _ _ hx).trans (bi e (by simp));refine⟨cs,aZ,hl,fun j u hu=>?_⟩;rw[List.getElem?_append_right (by rw[aK,Nat.succ_mul];omega),aK,show (k+1)*z+j - z=k*z+j by rw[Nat.succ_mul];omega];exact be j u hu
def Sl(w:World)(P:Nat→Prop)(A:Kj)(n:Nat)(l:List D):Prop:=
 l.length=n∧(0<n→∃b o xs,A=some ⟨b,o,none⟩∧P b∧D.aR w P l xs∧∀j u,xs[j]?=some u→w.cell? ⟨b,o+j,none⟩=some u)
section
variable {w J:World} {P c5:Nat→Prop} {A:Kj} {n z:Nat} {l:List D}
theorem D.rH{cs:List Value}:(D.sl l).rep w P cs↔∃A c n,cs=[.slice A n c]∧n≤c∧Sl w P A n l:=by
 simp only[D.rep,Sl];constructor
 ·rintro⟨A,c,rfl,hc,h⟩;exact⟨A,c,_,rfl,hc,rfl,h⟩
 ·rintro⟨A,c,n,rfl,hc,rfl,h⟩;exact⟨A,c,rfl,hc,h⟩
theorem Sl.c7(A:Kj):Sl w P A 0 []:=⟨rfl,fun h=>absurd h (by omega)⟩
theorem Sl.al(h:Sl w P A n l)(aj:∀b,P b→J.heap[b]?=w.heap[b]?):Sl J P A n l:=by
 refine⟨h.1,fun hn=>?_⟩;obtain⟨b,o,xs,bu,O,aZ,be⟩:=h.2 hn;exact⟨b,o,xs,bu,O,D.bY aj l xs aZ,fun j u hu=>(World.cell?_of_block (w:=w) (aj b O)).trans (be j u hu)⟩
theorem Sl.mono(h:Sl w P A n l)(hp:∀b,P b→c5 b):Sl w c5 A n l:=by
 refine⟨h.1,fun hn=>?_⟩;obtain⟨b,o,xs,bu,O,aZ,be⟩:=h.2 hn;exact⟨b,o,xs,bu,hp b O,D.bZ hp l xs aZ,be⟩
theorem Sl.some_(h:Sl w P A n l)(hn:0<n):∃b o,A=some ⟨b,o,none⟩∧P b:=by
 obtain⟨b,o,xs,bu,O,_⟩:=h.2 hn;exact⟨b,o,bu,O⟩
theorem Sl.none_(h:Sl w P none n l):n=0:=by
 rcases Nat.eq_zero_or_pos n with h0|h0
 ·exact h0
 ·obtain⟨b,o,bu,_⟩:=h.some_ h0;cases bu
theorem Sl.at_(h:Sl w P A n l)(bi:∀d∈l,d.sz=z){k:Nat}(aj:k<n) :
  ∃b o d cs,A=some ⟨b,o,none⟩∧P b∧l[k]?=some d∧d.rep w P cs∧cs.length=z∧∀j u,cs[j]?=some u→w.cell? ⟨b,o+k*z+j,none⟩=some u:=by
 obtain⟨b,o,xs,bu,O,aZ,be⟩:=h.2 (by omega);have hm:l[k]?=some (l[k]'(by have:=h.1;omega)):=List.getElem?_eq_getElem _;obtain⟨cs,hd,hl,hc⟩:=D.nB aZ bi hm;exact⟨b,o,_,cs,bu,O,hm,hd,hl,fun j u hu=>by rw[Nat.add_assoc];exact be _ u (hc j u hu)⟩
theorem Sl.iG{α:Type}{enc:α→D}{l:List α}(h:Sl w P A n (l.map enc))(bi:∀x,(enc x).sz=z){k:Nat}(aj:k<n) :
  ∃b o x cs,A=some ⟨b,o,none⟩∧P b∧l[k]?=some x∧(enc x).rep w P cs∧cs.length=z∧∀j u,cs[j]?=some u→w.cell? ⟨b,o+k*z+j,none⟩=some u:=by
 obtain⟨b,o,d,cs,bu,O,hd,aZ,hl,hc⟩:=h.at_ (z:=z) (fun d hd=>by obtain⟨x,_,rfl⟩:=List.mem_map.1 hd;exact bi x) aj;rw[List.getElem?_map] at hd
 cases hx:l[k]? with
 | none=>rw[hx] at hd;cases hd
 | some x=>
  rw[hx] at hd;injection hd with hd;subst hd;exact⟨b,o,x,cs,bu,O,rfl,aZ,hl,hc⟩
theorem Sl.take(h:Sl w P A n l){m:Nat}(hm:m≤n):Sl w P A m (l.take m):=by
 refine⟨by have:=h.1;simp;omega,fun h0=>?_⟩;obtain⟨b,o,xs,bu,O,aZ,be⟩:=h.2 (by omega);rw[←List.take_append_drop m l] at aZ;obtain⟨y,b3,rfl,aa,_⟩:=D.k9 aZ;exact⟨b,o,y,bu,O,aa,fun j u hu=>be j u (by rw[List.getElem?_append_left (List.getElem?_eq_some_iff.1 hu).1];exact hu)⟩
theorem Sl.src(h:Sl w P A n l)(bi:∀d∈l,d.sz=z):∃xs,D.aR w P l xs∧Src w z A n xs:=by
 rcases Nat.eq_zero_or_pos n with hn|hn
 ·subst hn;have:l=[]:=List.eq_nil_of_length_eq_zero h.1;subst this;exact⟨[],by simp only[D.aR],by simp,by simp,fun h=>absurd h (by omega)⟩
 ·obtain⟨b,o,xs,bu,O,aZ,be⟩:=h.2 hn;exact⟨xs,aZ,by rw[D.h5 _ _ aZ,D.hq bi,h.1],D.oW l xs aZ,fun _=>⟨b,o,bu,be⟩⟩
theorem Sl.oJ{base:Nat}{e:TypeId}{c:Nat}{xs:List Value}(h:w.ownsRow base e z (.slice A n c) n xs)(aZ:D.aR w P l xs)(hl:l.length=n)(S:∀g,A=some ⟨g,0,none⟩→base≤g→g<w.heap.size→P g):Sl w P A n l:=by
 refine⟨hl,fun hn=>?_⟩;obtain⟨g,bu,O,aS,hc,_⟩:=hj h hn;exact⟨g,0,xs,bu,S g bu O aS,aZ,fun j u hu=>by rw[Nat.zero_add];exact hc j u hu⟩
end
abbrev ao(w:World):Nat→Prop:=fun b=>b<w.heap.size
theorem D.on{w J:World}{d:D}{cs:List Value}(h:d.rep w (ao w) cs)(O:Below w.heap.size w J):d.rep J (ao J) cs:=
 D.aA (fun _ aq=>Nat.lt_of_lt_of_le aq O.size) _ _ (D.aD (fun b aq=>O.block b aq) _ _ h)
theorem Sl.on{w J:World}{A:Kj}{n:Nat}{l:List D}(h:Sl w (ao w) A n l)(O:Below w.heap.size w J):Sl J (ao J) A n l:=
 (h.al (fun b aq=>O.block b aq)).mono (fun _ aq=>Nat.lt_of_lt_of_le aq O.size)
structure Fr(M:Nat→Prop)(w J:World):Prop where
 os:J.os=w.os
 tape:J.tape=w.tape
 output:J.output=w.output
 size:w.heap.size≤J.heap.size
 block:∀k,k<w.heap.size→¬M k→J.heap[k]?=w.heap[k]?
abbrev Ext:World→World→Prop:=Fr fun _=>False
section
variable {M M':Nat→Prop} {a b c:World}
theorem Fr.refl(M:Nat→Prop)(w:World):Fr M w w:=⟨rfl,rfl,rfl,Nat.le_refl _,fun _ _ _=>rfl⟩
theorem Fr.trans(h:Fr M a b)(k:Fr M b c):Fr M a c:=
 ⟨k.os.trans h.os,k.tape.trans h.tape,k.output.trans h.output,Nat.le_trans h.size k.size,fun i I hn=>(k.block i (Nat.lt_of_lt_of_le I h.size) hn).trans (h.block i I hn)⟩
theorem Fr.mono(h:Fr M a b)(hM:∀k,M k→M' k):Fr M' a b:=⟨h.os,h.tape,h.output,h.size,fun k aj hn=>h.block k aj fun hm=>hn (hM k hm)⟩
theorem Fr.of(h:Below a.heap.size a b):Fr M a b:=⟨h.os,h.tape,h.output,h.size,fun k aj _=>h.block k aj⟩
theorem Fr.below{B:Nat}(h:Fr M a b)(aK:B≤a.heap.size)(hM:∀k,k<B→¬M k):Below B a b:=⟨h.os,h.tape,h.output,h.size,fun k aj=>h.block k (Nat.lt_of_lt_of_le aj aK) (hM k aj)⟩
theorem Fr.low(h:Fr M a b)(hM:∀k,M k→a.heap.size≤k):Ext a b:=⟨h.os,h.tape,h.output,h.size,fun k aj _=>h.block k aj fun hm=>by have:=hM k hm;omega⟩
theorem Fr.ext(h:Ext a b):Below a.heap.size a b:=h.below (Nat.le_refl _) fun _ _ h=>h
theorem Fr.drew(h:Fr M a b):Fr M a b.drew:=⟨h.os,h.tape,h.output,h.size,h.block⟩
theorem Fr.drewN(h:Fr M a b)(n:Nat):Fr M a (b.drewN n):=⟨h.os,h.tape,h.output,h.size,h.block⟩
theorem Fr.alloc(h:Fr M a b)(o:Obj):Fr M a (b.alloc o):=
 ⟨h.os,h.tape,h.output,by have:=h.size;simp;omega,fun k aj hn=>(Below.heap_alloc b o k (Nat.lt_of_lt_of_le aj h.size)).trans (h.block k aj hn)⟩
theorem Fr.setCell(h:Fr M a b){p:Addr}(hp:M p.block∨a.heap.size≤p.block)(v:Value):Fr M a (b.setCell p v):=by
 refine⟨h.os,h.tape,h.output,by simpa using h.size,fun k aj hn=>?_⟩;have:k≠p.block:=by
  rintro rfl;rcases hp with hp|hp
  ·exact hn hp
  ·omega
 rw[Below.heap_setCell _ _ _ _ this];exact h.block k aj hn
theorem Fr.mY(h:Fr M a b)(k:Below a.heap.size b c):Fr M a c:=
 ⟨k.os.trans h.os,k.tape.trans h.tape,k.output.trans h.output,Nat.le_trans h.size k.size,fun i I hn=>(k.block i I).trans (h.block i I hn)⟩
theorem Fr.grown{row:Option Nat}(h:Fr M a b)(aS:b.grownBy c row)(aZ:∀g,row=some g→M g∨a.heap.size≤g):Fr M a c:=by
 refine⟨aS.os.trans h.os,aS.tape.trans h.tape,aS.output.trans h.output,Nat.le_trans h.size aS.size,fun k aj hn=>?_⟩;refine(aS.block k (Nat.lt_of_lt_of_le aj h.size) fun e=>?_).trans (h.block k aj hn);rcases aZ k e.symm with ac|ac
 ·exact hn ac
 ·omega
theorem Fr.cell(h:Fr M a b){k j:Nat}(aj:k<a.heap.size)(hn:¬M k):b.cell? ⟨k,j,none⟩=a.cell? ⟨k,j,none⟩:=World.cell?_of_block (h.block k aj hn)
theorem Fr.frozen(h:Fr M a b){k j:Nat}(aj:k<a.heap.size)(hn:¬M k):b.frozen? ⟨k,j,none⟩=a.frozen? ⟨k,j,none⟩:=by
 simp only[World.frozen?,h.block k aj hn]
theorem Fr.two(h:Fr M a b):(∀k j,k<a.heap.size→¬M k→b.cell? ⟨k,j,none⟩=a.cell? ⟨k,j,none⟩)∧(∀k j,k<a.heap.size→¬M k→b.frozen? ⟨k,j,none⟩=a.frozen? ⟨k,j,none⟩):=
 ⟨fun _ _ aj hn=>h.cell aj hn,fun _ _ aj hn=>h.frozen aj hn⟩
theorem Fr.xC(h:Ext a b):(∀k j,k<a.heap.size→b.cell? ⟨k,j,none⟩=a.cell? ⟨k,j,none⟩)∧(∀k j,k<a.heap.size→b.frozen? ⟨k,j,none⟩=a.frozen? ⟨k,j,none⟩):=
 ⟨fun _ _ aj=>h.cell aj (fun h=>h),fun _ _ aj=>h.frozen aj (fun h=>h)⟩
theorem Fr.twod(h:Fr M a.drew b):(∀k j,k<a.heap.size→¬M k→b.cell? ⟨k,j,none⟩=a.cell? ⟨k,j,none⟩)∧(∀k j,k<a.heap.size→¬M k→b.frozen? ⟨k,j,none⟩=a.frozen? ⟨k,j,none⟩):=
 ⟨fun _ _ aj hn=>h.cell aj hn,fun _ _ aj hn=>h.frozen aj hn⟩
theorem Fr.F8(h:Ext a.drew b):(∀k j,k<a.heap.size→b.cell? ⟨k,j,none⟩=a.cell? ⟨k,j,none⟩)∧(∀k j,k<a.heap.size→b.frozen? ⟨k,j,none⟩=a.frozen? ⟨k,j,none⟩):=
 ⟨fun _ _ aj=>h.cell aj (fun h=>h),fun _ _ aj=>h.frozen aj (fun h=>h)⟩
theorem Fr.iB(h:Ext a.drew.drew b):(∀k j,k<a.heap.size→b.cell? ⟨k,j,none⟩=a.cell? ⟨k,j,none⟩)∧(∀k j,k<a.heap.size→b.frozen? ⟨k,j,none⟩=a.frozen? ⟨k,j,none⟩):=
 ⟨fun _ _ aj=>h.cell aj (fun h=>h),fun _ _ aj=>h.frozen aj (fun h=>h)⟩
theorem Fr.HR(h:Fr M a.drew.drew b):(∀k j,k<a.heap.size→¬M k→b.cell? ⟨k,j,none⟩=a.cell? ⟨k,j,none⟩)∧(∀k j,k<a.heap.size→¬M k→b.frozen? ⟨k,j,none⟩=a.frozen? ⟨k,j,none⟩):=
 ⟨fun _ _ aj hn=>h.cell aj hn,fun _ _ aj hn=>h.frozen aj hn⟩
theorem Fr.aL(h:Fr M a.drew b):Fr M a b:=⟨h.os,h.tape,h.output,h.size,h.block⟩
end
abbrev off(M:Nat→Prop)(w:World):Nat→Prop:=fun b=>b<w.heap.size∧¬M b
section
variable {M:Nat→Prop} {w J:World}
theorem sD(h:Fr M w J):∀b,off M w b→off M J b:=fun _ O=>⟨Nat.lt_of_lt_of_le O.1 h.size,O.2⟩
theorem D.eQ{d:D}{cs:List Value}(h:d.rep w (off M w) cs)(O:Fr M w J):d.rep J (off M J) cs:=
 D.aA (sD O) _ _ (D.aD (fun b aq=>O.block b aq.1 aq.2) _ _ h)
theorem Sl.eQ{A:Kj}{n:Nat}{l:List D}(h:Sl w (off M w) A n l)(O:Fr M w J):Sl J (off M J) A n l:=
 (h.al (fun b aq=>O.block b aq.1 aq.2)).mono (sD O)
end
def au(w:World)(g:Nat)(t:TypeId)(cs:Array Value):Prop:=w.heap[g]?=some (.cells cs t (0,0))
section
variable {w J:World} {g:Nat} {t:TypeId} {cs:Array Value} {M:Nat→Prop}
theorem au.lt(h:au w g t cs):g<w.heap.size:=by
 rcases Nat.lt_or_ge g w.heap.size with aq|bm
 ·exact aq
 ·unfold au at h;rw[Array.getElem?_eq_none bm] at h;cases h
theorem au.cell(h:au w g t cs)(i:Nat):w.cell? ⟨g,i,none⟩=cs[i]?:=cell_of_row w g i cs t (0,0) h
theorem au.frozen(h:au w g t cs)(i:Nat):w.frozen? ⟨g,i,none⟩=false:=by
 unfold au at h;simp[World.frozen?,h]
theorem au.two(h:au w g t cs):(∀i,w.cell? ⟨g,i,none⟩=cs[i]?)∧(∀i,w.frozen? ⟨g,i,none⟩=false)∧g<w.heap.size:=⟨h.cell,h.frozen,h.lt⟩
theorem au.new(w:World)(t:TypeId)(cs:Array Value):au (w.alloc (.cells cs t)) w.heap.size t cs:=heap_alloc_new w _
theorem au.k5(w:World)(t:TypeId)(cs:Array Value)(aS:g=w.heap.size):au (w.alloc (.cells cs t)) g t cs:=by
 subst aS;exact heap_alloc_new w _
theorem au.drew(h:au w g t cs):au w.drew g t cs:=h
theorem au.alloc(h:au w g t cs)(o:Obj):au (w.alloc o) g t cs:=(Below.heap_alloc w o g h.lt).trans h
theorem au.bH(h:au w g t cs)(i:Nat)(u:Value):au (w.setCell ⟨g,i,none⟩ u) g t (cs.setIfInBounds i u):=by
 unfold au at h ⊢;simp[World.setCell,Array.getElem?_modify,h]
theorem au.Ie(h:au w g t cs){p:Addr}(hp:g≠p.block)(u:Value):au (w.setCell p u) g t cs:=(Below.heap_setCell w p u g hp).trans h
theorem au.below{B:Nat}(h:au w g t cs)(O:Below B w J)(aS:g<B):au J g t cs:=(O.block g aS).trans h
theorem au.on(h:au w g t cs)(O:Fr M w J)(aS:¬M g):au J g t cs:=(O.block g h.lt aS).trans h
theorem au.aj(h:au w g t cs)(O:Ext w J):au J g t cs:=(O.block g h.lt fun h=>h).trans h
theorem au.grown{row:Option Nat}(h:au w g t cs)(O:w.grownBy J row)(aS:some g≠row):au J g t cs:=(O.block g h.lt aS).trans h
end
theorem PU:(∀(t:Array Value) (d:List Deferred) (i:Nat) (v:Value),Act.put ⟨t,d⟩ (some i) v=⟨t.setIfInBounds i v,d⟩)∧(∀(l:List Value) (i:Nat) (v:Value),l.toArray.setIfInBounds i v=(l.set i v).toArray)∧(∀(x v:Value) (l:List Value),(x::l).set 0 v=v::l)∧(∀(x v:Value) (l:List Value) (i:Nat),(x::l).set (i+1) v=x::l.set i v)∧
  (∀(l:List Oper) (i:Nat) (h:i<l.toArray.size),l.toArray[i]'h=l[i]'(by simpa using h))∧(∀(x:Oper) (l:List Oper) (h:0<(x::l).length),(x::l)[0]'h=x)∧(∀(x:Oper) (l:List Oper) (i:Nat) (h:i+1<(x::l).length),(x::l)[i+1]'h=l[i]'(by simpa using h)):=
 ⟨fun _ _ _ _=>rfl,fun _ _ _=>by simp,fun _ _ _=>rfl,fun _ _ _ _=>rfl,fun _ _ _=>by simp,fun _ _ _=>rfl,fun _ _ _ _=>rfl⟩
section
variable {P:Program} {ops:Array Oper} {Q:Exit→Act→World→Prop} {R:World→World→Prop} {M:Nat→Prop} {tails:List Nat} {i:Nat} {o:Oper} {v:Value} {a q:Act} {w:World}
theorem pf{rest:List (Nat×Nat)}(h:b3 P ops Q R rest q w)(I:ops[i]?=some o:=by rfl)(hw:Region.wanted o (yielded ops a.tmps)=true:=by rfl)(bD:∀V,(execOp a.eval o).run P V=.ok (.value v) V:=by intro V;(go_simp<;>with_reducible rfl))(bE:a.put o.dst v=q:=by (simp only[PU];rfl)) :
  b3 P ops Q R ((i,3)::rest) a w:=bf I hw bD (bE▸h)
theorem tf{rest:PT}(h:cW P ops Q R tails rest q w)(I:ops[i]?=some o:=by rfl)(hw:Region.wanted o (yielded ops a.tmps)=true:=by rfl)(bD:∀V,(execOp a.eval o).run P V=.ok (.value v) V:=by intro V;(go_simp<;>with_reducible rfl))(bE:a.put o.dst v=q:=by (simp only[PU];rfl)) :
  cW P ops Q R tails (.free i rest) a w:=kA I hw bD (bE▸h)
theorem ph{rest:List (Nat×Nat)}(h:b3 P ops Q R rest q w)(I:ops[i]?=some o:=by rfl)(hw:Region.wanted o (yielded ops a.tmps)=true:=by rfl)(bD:∀V,R w V→(execOp a.eval o).run P V=.ok (.value v) V:=by intro V hV;obtain⟨hVc,hVf⟩:=Fr.F8 hV;(go_simp<;>with_reducible rfl))(bE:a.put o.dst v=q:=by (simp only[PU];rfl)) :
  b3 P ops Q R ((i,0)::rest) a w:=cR I hw bD (bE▸h)
theorem th{rest:PT}(h:cW P ops Q R tails rest q w)(I:ops[i]?=some o:=by rfl)(hw:Region.wanted o (yielded ops a.tmps)=true:=by rfl)(bD:∀V,R w V→(execOp a.eval o).run P V=.ok (.value v) V:=by intro V hV;obtain⟨hVc,hVf⟩:=Fr.F8 hV;(go_simp<;>with_reducible rfl))(bE:a.put o.dst v=q:=by (simp only[PU];rfl)) :
  cW P ops Q R tails (.held i rest) a w:=qF I hw bD (bE▸h)
theorem Ji{rest:List (Nat×Nat)}(h:b3 P ops Q R rest q w)(I:ops[i]?=some o:=by rfl)(hw:Region.wanted o (yielded ops a.tmps)=true:=by rfl)(bD:∀V,R w V→(execOp a.eval o).run P V=.ok (.value v) V:=by intro V hV;obtain⟨hVc,hVf⟩:=Fr.xC hV;(go_simp<;>with_reducible rfl))(bE:a.put o.dst v=q:=by (simp only[PU];rfl)) :
  b3 P ops Q R ((i,0)::rest) a w:=cR I hw bD (bE▸h)
theorem pK{rest:List (Nat×Nat)}(h:b3 P ops Q R rest q w)(I:ops[i]?=some o:=by rfl)(hw:Region.wanted o (yielded ops a.tmps)=true:=by rfl)(bD:∀V,R w V→(execOp a.eval o).run P V=.ok (.value v) V:=by intro V hV;obtain⟨hVc,hVf⟩:=Fr.twod hV;(go_simp<;>with_reducible rfl))(bE:a.put o.dst v=q:=by (simp only[PU];rfl)) :
  b3 P ops Q R ((i,0)::rest) a w:=cR I hw bD (bE▸h)
theorem pO{rest:PT}(h:cW P ops Q R tails rest q w)(I:ops[i]?=some o:=by rfl)(hw:Region.wanted o (yielded ops a.tmps)=true:=by rfl)(bD:∀V,R w V→(execOp a.eval o).run P V=.ok (.value v) V:=by intro V hV;obtain⟨hVc,hVf⟩:=Fr.twod hV;(go_simp<;>with_reducible rfl))(bE:a.put o.dst v=q:=by (simp only[PU];rfl)) :
  cW P ops Q R tails (.held i rest) a w:=qF I hw bD (bE▸h)
theorem EE{rest:List (Nat×Nat)}(h:b3 P ops Q R rest q w)(I:ops[i]?=some o:=by rfl)(hw:Region.wanted o (yielded ops a.tmps)=true:=by rfl)(bD:∀V,R w V→(execOp a.eval o).run P V=.ok (.value v) V:=by intro V hV;obtain⟨hVc,hVf⟩:=Fr.HR hV;(go_simp<;>with_reducible rfl))(bE:a.put o.dst v=q:=by (simp only[PU];rfl)) :
  b3 P ops Q R ((i,0)::rest) a w:=cR I hw bD (bE▸h)
theorem sG{J:World}{rest:List (Nat×Nat)}{M:Nat→Prop}(h:b3 P ops Q (Fr M) rest q J)(I:ops[i]?=some o:=by rfl)(hx:∀K:Act→World→Prop,K q J→if Region.wanted o (yielded ops a.tmps)=true then o.wp P a w K Q else K (a.put o.dst undef) w:=by (intro K hK;go_simp;(try simp only[PU] at hK ⊢);exact hK))(cq:Fr M w J:=by exact(Fr.refl _ _).alloc _) :
  b3 P ops Q (Fr M) ((i,1)::rest) a w:=aP I fun K hK=>hx K (hK _ _ cq h)
theorem gX{J:World}{p:PT}{M:Nat→Prop}(h:cW P ops Q (Fr M) tails p q J)(I:ops[i]?=some o:=by rfl)(hx:∀K:Act→World→Prop,K q J→if Region.wanted o (yielded ops a.tmps)=true then o.wp P a w K Q else K (a.put o.dst undef) w:=by (intro K hK;go_simp;(try simp only[PU] at hK ⊢);exact hK))(cq:Fr M w J:=by exact(Fr.refl _ _).alloc _)(hT:tails.contains i=false:=by rfl) :
  qG P ops Q (Fr M) tails i p a w:=bD I (fun K hK=>hx K (hK _ _ cq h)) hT
end
section
variable {P:Program} {ops:Array Oper} {Q:Exit→Act→World→Prop} {M:Nat→Prop} {id:Nat} {a:Act} {w:World}
theorem fj(M:Nat→Prop)(e:List (Nat×Nat))(h:b3 P ops Q (Fr M) e a w.drew)(ac:P.follows .mixedOrders=true:=by kernel_rfl)(ap:uJ .any ops e=true:=by kernel_rfl)(bx:∀c a d v w,Q (.panic c) (a.put d v) w→Q (.panic c) a w:=by (intro _ _ d _ _ h;first|(cases d<;>exact h)|exact hQ0 _ _ _ _ _ h)):(Code.region id ops true).wp P Q a w:=
 pv (Fr M) e ac ap (Fr.refl _) (fun _ _ _ h k=>h.trans k) bx h
theorem uU(M:Nat→Prop)(tails:List Nat)(p:PT)(h:cW P ops Q (Fr M) tails p a w.drew)(ac:P.follows .mixedOrders=true:=by kernel_rfl)(ap:vm .any ops tails p=true:=by kernel_rfl)(bx:∀c a d v w,Q (.panic c) (a.put d v) w→Q (.panic c) a w:=by (intro _ _ d _ _ h;first|(cases d<;>exact h)|exact hQ0 _ _ _ _ _ h)):(Code.region id ops true).wp P Q a w:=
 pw (Fr M) tails p ac ap (Fr.refl _) (fun _ _ _ h k=>h.trans k) bx h
end
theorem gu{K:Act→World→Prop}{c:World→Prop}{b:Act→World→Prop}{a q:Act}{J:World}(hK:∀q J,c J→b q J→K q J)(cq:c J)(h:b q J)(e:a=q:=by ((try simp only[PU]);rfl)):K a J:=hK _ _ cq (e▸h)
theorem eC{K:Act→World→Prop}{b:Act→World→Prop}{a q:Act}{J:World}(hK:∀q J,b q J→K q J)(h:b q J)(e:a=q:=by ((try simp only[PU]);rfl)):K a J:=hK _ _ (e▸h)
end Go.Proofs.YtnigabjngpnbiaaGreat
