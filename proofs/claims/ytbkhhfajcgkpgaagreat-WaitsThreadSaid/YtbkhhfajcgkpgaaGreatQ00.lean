/- Part 0 of the proof. No condition of its own. -/
import Derived.Deep.Draws
import Derived.Maps.AppendAt
import Derived.OrdersHeld
import Derived.StillTail
import Derived.Test.YtbkhhfajcgkpgaaGreatRows
import Derived.WalkKit
import Derived.WalkLawsBesides
import Derived.WalkSpells
namespace Go.Proofs.YtbkhhfajcgkpgaaGreat
open Go.RowKit Go.Proofs.Tryz
set_option maxRecDepth 1000000
set_option maxHeartbeats 25600000
set_option linter.unusedVariables false
abbrev Kr:=Option Addr
abbrev Ks:=List ByteArray
def Kt(p:Prop):Prop:=p
theorem Kt.o{p:Prop}(h:Kt p):p:=h
section
variable {P:Program} {ops:Array Oper} {Q:Exit→Act→World→Prop} {md:Region.Mode} {R:World→World→Prop} {T:Nat→Bool}
def jY(P:Program)(md:Region.Mode)(ops:Array Oper)(Q:Exit→Act→World→Prop)(R:World→World→Prop)(T:Nat→Bool):Nat→Array Bool→Act→World→Prop
 | 0,listed,a,w=>Region.ready md ops listed=[]∧Q .normal a w
 | fuel+1,listed,a,w=>
  (Region.ready md ops listed=[]→Q .normal a w)∧
  ∀i∈Region.ready md ops listed,wpOp P ops Q i (fun r ac=>(T i=true→R w ac)∧jY P md ops Q R T fuel (listed.setIfInBounds i true) r ac) a w
theorem lZ:∀(fuel:Nat) (listed:Array Bool) (a:Act) (w:World),jY P md ops Q R T fuel listed a w→wpAny P md ops Q fuel listed a w
 | 0,_,_,_,h=>h
 | fuel+1,_,_,_,h=>⟨h.1,fun i al=>wpOp_mono (fun r ac q=>lZ fuel _ r ac q.2) (h.2 i al)⟩
def jB(md:Region.Mode)(ops:Array Oper)(listed:Array Bool):Prop:=
 ∀j n,ops[j]?=some n→listed.getD j false=true→∀e∈n.after,Region.binds md e=true→listed.getD e.on false=true
theorem jB.set{i:Nat}{listed:Array Bool}(inv:jB md ops listed)(al:i∈Region.ready md ops listed):jB md ops (listed.setIfInBounds i true):=by
 obtain⟨_,s,cH,aK⟩:=mem_ready.1 al;intro j n bc hl e he O;by_cases v:i=j
 ·subst v;have:n=s:=Option.some.inj (bc.symm.trans cH);subst this;exact getD_set_true (aK e he O)
 ·rw[getD_set_ne false v] at hl;exact getD_set_true (inv j n bc hl e he O)
def Cg(md:Region.Mode)(ops:Array Oper):Nat→Nat→Nat→Bool
 | 0,_,_=>false
 | f+1,j,i=>match ops[j]? with
  | none=>false
  | some n=>n.after.any fun e=>Region.binds md e && (e.on == i || Cg md ops f e.on i)
theorem Ch{i:Nat}{listed:Array Bool}(inv:jB md ops listed):∀(f j:Nat),Cg md ops f j i=true→
  (∃n,ops[j]?=some n∧∀e∈n.after,Region.binds md e=true→listed.getD e.on false=true)→listed.getD i false=true:=by
 intro f
 induction f with
 | zero=>intro j h;simp[Cg] at h
 | succ f ao=>
  intro j h bc;obtain⟨n,a8,aK⟩:=bc;simp only[Cg,a8] at h;obtain⟨e,he,O⟩:=Array.any_eq_true'.1 h;simp only[Bool.and_eq_true,Bool.or_eq_true,beq_iff_eq] at O;have hl:=aK e he O.1;rcases O.2 with aC|aC
  ·rw[←aC];exact hl
  ·refine ao e.on aC ?_
   cases aj:ops[e.on]? with
   | none=>cases f<;>simp[Cg,aj] at aC
   | some ok=>exact⟨ok,rfl,fun l a aW=>inv e.on ok aj hl l a aW⟩
theorem hE{i:Nat}{s:Oper}{v:Value}{U:World→World→Prop}(t:∀a b c,R a b→U b c→U a c)(l:∀a,R a a)(D:∀a,U a a)(al:ops[i]?=some s)(g:∀(j:Nat) (o:Oper) cs b,ops[j]?=some o→o.op≠.select cs b)
  (hQ:∀c a w,Q (.panic c) (a.put s.dst v) w→Q (.panic c) a w) (hT:(∀a b,U a b)∨∀j,T j=false→∃f,Cg md ops f j i=true) :
  ∀(fuel:Nat) (listed:Array Bool) (a:Act) (w:World),jB md ops listed→
   (∀j n,ops[j]?=some n→j≠i→listed.getD j true=false→(∀e∈n.after,Region.binds md e=true→e.on≠i)→s.apart ops n=true)→
   i∈Region.ready md ops listed→YieldsIf P ops (U w) s v a→
   jY P md ops Q R T fuel (listed.setIfInBounds i true) (a.put s.dst v) w→jY P md ops Q R T (fuel+1) listed a w:=by
 intro fuel
 induction fuel with
 | zero=>
  intro listed a w _ _ aU a4 H;refine⟨fun h=>(by rw[h] at aU;cases aU),fun j bc=>?_⟩;by_cases m:j=i
  ·subst m;exact a4.wpOp al (D w) ⟨fun _=>l w,H⟩
  ·have:=ready_mono bc m;rw[H.1] at this
   cases this
 | succ fuel ao=>
  intro listed a w inv y aU a4 H;refine⟨fun h=>(by rw[h] at aU;cases aU),fun j bc=>?_⟩;by_cases m:j=i
  ·subst m;exact a4.wpOp al (D w) ⟨fun _=>l w,H⟩
  ·have ae:=H.2 j (ready_mono bc m);obtain⟨B,n,A,aK⟩:=mem_ready.1 bc;have p:=(mem_ready.1 aU).1;have C:∀e∈n.after,Region.binds md e=true→e.on≠i:=fun e he O heq=>by
    have ae:=aK e he O;have h0:=p;rw[heq] at ae;rcases Nat.lt_or_ge i listed.size with q|q
    ·simp[q] at h0 ae;rw[h0] at ae;cases ae
    ·simp[Array.getElem?_eq_none q] at ae
   have u:(∀a b,U a b)∨T j=true:=by
    rcases hT with hT|hT
    ·exact .inl hT
    refine .inr ?_
    cases u:T j with
    | true=>rfl
    | false=>
     obtain⟨f,aD⟩:=hT j u;have:=Ch inv f j aD ⟨n,A,aK⟩;rcases Nat.lt_or_ge i listed.size with q|q
     ·simp[q] at p this;rw[p] at this;cases this
     ·simp[Array.getElem?_eq_none q] at this
   have aC:=wpOp_putIf (S:=U w) A (y j n A m B C) (fun cs b=>g i s cs b al) (fun cs b=>g j n cs b A) hQ a4 ae;have x:∀k ok,ops[k]?=some ok→k≠i→(listed.setIfInBounds j true).getD k true=false→
     (∀e∈ok.after,Region.binds md e=true→e.on≠i)→s.apart ops ok=true:=fun k ok aj F E ca=>by
    refine y k ok aj F ?_ ca;by_cases z:j=k
    ·subst z;exact B
    ·rw[getD_set_ne true z] at E;exact E
   refine wpOp_mono (fun r ac aT=>?_) aC;have d:YieldsIf P ops (U ac) s v r:=aT.1.imp (fun⟨hw,bD⟩=>⟨hw,fun V hV=>bD V (u.elim (fun h=>h _ _) fun h=>t _ _ _ (aT.2.1 h) hV)⟩) id;refine⟨aT.2.1,ao (listed.setIfInBounds j true) r ac (inv.set bc) x (ready_mono aU (Ne.symm m)) d ?_⟩;rw[Array.setIfInBounds_comm _ _ m];exact aT.2.2
def bT(P:Program)(ops:Array Oper)(Q:Exit→Act→World→Prop)(R:World→World→Prop):List (Nat×Nat)→Act→World→Prop
 | [],a,w=>Q .normal a w
 | (i,0)::rest,a,w=>∃o v,ops[i]?=some o∧YieldsIf P ops (R w) o v a∧bT P ops Q R rest (a.put o.dst v) w
 | (i,3)::rest,a,w=>∃o v,ops[i]?=some o∧YieldsIf P ops (fun _=>True) o v a∧bT P ops Q R rest (a.put o.dst v) w
 | (i,k+1)::rest,a,w=>∃o,ops[i]?=some o∧∀K:Act→World→Prop,(∀r ac,(k=0→R w ac)→bT P ops Q R rest r ac→K r ac)→
   (if Region.wanted o (yielded ops a.tmps)=true then o.wp P a w K Q else K (a.put o.dst undef) w)
def lh(md:Region.Mode)(ops:Array Oper):List (Nat×Nat)→Array Bool→Bool
 | [],listed=>(Region.ready md ops listed).isEmpty
 | (i,0)::rest,listed=>Region.free md ops listed i && (Region.ready md ops listed).contains i && lh md ops rest (listed.setIfInBounds i true)
 | (i,3)::rest,listed=>Region.free md ops listed i && (Region.ready md ops listed).contains i && lh md ops rest (listed.setIfInBounds i true)
 | (i,_+1)::rest,listed=>(Region.ready md ops listed == [i]) && lh md ops rest (listed.setIfInBounds i true)
def mH(e:List (Nat×Nat)):List Nat:=(e.filter fun p=>decide (2=p.2)).map (·.1)
def vL(md:Region.Mode)(ops:Array Oper)(e:List (Nat×Nat)):Bool:=
 Region.noSelect ops && (e.length == ops.size) && (e.all fun p=>decide (p.2≤3)) && (e.all fun p=>decide (p.2=1∨p.2=2∨p.2=3) || (mH e).all fun j=>Cg md ops ops.size j p.1) && lh md ops e (Array.replicate ops.size false)
theorem iu(t:∀a b c,R a b→R b c→R a c)(l:∀a,R a a)(g:∀(j:Nat) (o:Oper) cs b,ops[j]?=some o→o.op≠.select cs b)
  (hQ:∀c a d v w,Q (.panic c) (a.put d v) w→Q (.panic c) a w) :
  ∀(e:List (Nat×Nat)) (listed:Array Bool) (a:Act) (w:World),jB md ops listed→lh md ops e listed=true→
   (∀p∈e,p.2=0→∀j,T j=false→∃f,Cg md ops f j p.1=true)→(∀p∈e,2=p.2→T p.1=false)→(∀p∈e,p.2≤3)→
   bT P ops Q R e a w→jY P md ops Q R T e.length listed a w
 | [],listed,a,w,_,aL,_,_,_,h=>⟨by simpa[lh] using aL,h⟩
 | (i,0)::rest,listed,a,w,inv,aL,h0,aC,aT,h=>by
  obtain⟨o,v,al,a4,h⟩:=h;simp only[lh,Bool.and_eq_true] at aL;have aU:i∈Region.ready md ops listed:=by simpa using aL.1.2
  exact hE (U:=R) t l l al g (fun c a w=>hQ c a _ _ w) (.inr (h0 (i,0) (by simp) rfl)) rest.length listed a w inv (Region.free_spec al aL.1.1) aU a4
   (iu t l g hQ rest _ _ _ (inv.set aU) aL.2 (fun p hp=>h0 p (by simp[hp])) (fun p hp=>aC p (by simp[hp])) (fun p hp=>aT p (by simp[hp])) h)
 | (i,3)::rest,listed,a,w,inv,aL,h0,aC,aT,h=>by
  obtain⟨o,v,al,a4,h⟩:=h;simp only[lh,Bool.and_eq_true] at aL;have aU:i∈Region.ready md ops listed:=by simpa using aL.1.2
  exact hE (U:=fun _ _=>True) (fun _ _ _ _ _=>trivial) l (fun _=>trivial) al g (fun c a w=>hQ c a _ _ w) (.inl fun _ _=>trivial) rest.length listed a w inv (Region.free_spec al aL.1.1) aU a4
   (iu t l g hQ rest _ _ _ (inv.set aU) aL.2 (fun p hp=>h0 p (by simp[hp])) (fun p hp=>aC p (by simp[hp])) (fun p hp=>aT p (by simp[hp])) h)
 | (i,1)::rest,listed,a,w,inv,aL,h0,aC,aT,h=>by
  obtain⟨o,al,h⟩:=h;simp only[lh,Bool.and_eq_true,beq_iff_eq] at aL;have aU:i∈Region.ready md ops listed:=by rw[aL.1];simp
  refine⟨fun h0=>(by rw[h0] at aU;cases aU),fun j bc=>?_⟩;rw[aL.1] at bc;have m:j=i:=by simpa using bc
  subst m;have s:=h (fun r ac=>(T j=true→R w ac)∧jY P md ops Q R T rest.length (listed.setIfInBounds j true) r ac) fun r ac b8 hp=>
   ⟨fun hT=>b8 rfl,iu t l g hQ rest _ _ _ (inv.set aU) aL.2 (fun p hp=>h0 p (by simp[hp])) (fun p hp=>aC p (by simp[hp])) (fun p hp=>aT p (by simp[hp])) hp⟩
  unfold Go.wpOp;simp only[al];split
  ·rename_i hw;rw[if_pos hw] at s;exact .inl s
  ·rename_i hw;rw[if_neg hw] at s
   exact s
 | (i,2)::rest,listed,a,w,inv,aL,h0,aC,aT,h=>by
  obtain⟨o,al,h⟩:=h;simp only[lh,Bool.and_eq_true,beq_iff_eq] at aL;have aU:i∈Region.ready md ops listed:=by rw[aL.1];simp
  refine⟨fun h0=>(by rw[h0] at aU;cases aU),fun j bc=>?_⟩;rw[aL.1] at bc;have m:j=i:=by simpa using bc
  subst m;have u:T j=false:=aC (j,2) (by simp) rfl;have s:=h (fun r ac=>(T j=true→R w ac)∧jY P md ops Q R T rest.length (listed.setIfInBounds j true) r ac) fun r ac _ hp=>
   ⟨fun hT=>(by rw[u] at hT;cases hT),iu t l g hQ rest _ _ _ (inv.set aU) aL.2 (fun p hp=>h0 p (by simp[hp])) (fun p hp=>aC p (by simp[hp])) (fun p hp=>aT p (by simp[hp])) hp⟩
  unfold Go.wpOp;simp only[al];split
  ·rename_i hw;rw[if_pos hw] at s;exact .inl s
  ·rename_i hw;rw[if_neg hw] at s
   exact s
 | (i,k+4)::rest,listed,a,w,inv,aL,h0,aC,aT,h=>absurd (aT (i,k+4) (by simp)) (by simp)
theorem kF(R:World→World→Prop)(e:List (Nat×Nat)){id:Nat}{a:Act}{w:World}(hm:P.follows .mixedOrders=true)(aL:vL .any ops e=true)
  (l:∀a,R a a) (t:∀a b c,R a b→R b c→R a c) (hQ:∀c a d v w,Q (.panic c) (a.put d v) w→Q (.panic c) a w)
  (h:bT P ops Q R e a w.drew):(Code.region id ops true).wp P Q a w:=by
 simp only[vL,Bool.and_eq_true,beq_iff_eq] at aL;obtain⟨⟨⟨⟨hs,hl⟩,aT⟩,ht⟩,hp⟩:=aL;refine wp_region_any hm (lZ (R:=R) (T:=fun j=>!(mH e).contains j) _ _ _ _ ?_);rw[←hl];refine iu t l (Region.noSelect_spec hs) hQ e _ a _ (fun j n _ bc=>?_) (by rw[hl];exact hp) (fun p e2 i j bc=>?_) (fun p e2 f=>?_) (fun p e2=>?_) h
 ·rw[getD_replicate_false] at bc;cases bc
 ·have ae:=List.all_eq_true.1 ht p e2;rw[i] at ae;have g:j∈mH e:=by simpa using bc
  have aC:((mH e).all fun j=>Cg .any ops ops.size j p.1)=true:=by simpa using ae
  exact⟨_,List.all_eq_true.1 aC j g⟩
 ·have:p.1∈mH e:=List.mem_map.2 ⟨p,List.mem_filter.2 ⟨e2,by simpa using f⟩,rfl⟩;simpa using this
 ·exact List.all_eq_true.1 aT p e2 |> of_decide_eq_true
theorem bI{i:Nat}{o:Oper}{v:Value}{rest:List (Nat×Nat)}{a:Act}{w:World}(al:ops[i]?=some o)(hw:Region.wanted o (yielded ops a.tmps)=true)
  (bD:∀V,R w V→(execOp a.eval o).run P V=.ok (.value v) V) (h:bT P ops Q R rest (a.put o.dst v) w):bT P ops Q R ((i,0)::rest) a w:=
 ⟨o,v,al,.inl ⟨hw,bD⟩,h⟩
theorem hW{i:Nat}{o:Oper}{rest:List (Nat×Nat)}{a:Act}{w:World}(al:ops[i]?=some o)(hw:Region.wanted o (yielded ops a.tmps)=false)
  (h:bT P ops Q R rest (a.put o.dst undef) w):bT P ops Q R ((i,0)::rest) a w:=
 ⟨o,undef,al,.inr ⟨hw,rfl⟩,h⟩
theorem bf{i:Nat}{o:Oper}{v:Value}{rest:List (Nat×Nat)}{a:Act}{w:World}(al:ops[i]?=some o)(hw:Region.wanted o (yielded ops a.tmps)=true)
  (bD:∀V,(execOp a.eval o).run P V=.ok (.value v) V) (h:bT P ops Q R rest (a.put o.dst v) w):bT P ops Q R ((i,3)::rest) a w:=
 ⟨o,v,al,.inl ⟨hw,fun V _=>bD V⟩,h⟩
theorem c9{i:Nat}{o:Oper}{rest:List (Nat×Nat)}{a:Act}{w:World}(al:ops[i]?=some o)(hw:Region.wanted o (yielded ops a.tmps)=false)
  (h:bT P ops Q R rest (a.put o.dst undef) w):bT P ops Q R ((i,3)::rest) a w:=
 ⟨o,undef,al,.inr ⟨hw,rfl⟩,h⟩
theorem aK{i:Nat}{o:Oper}{rest:List (Nat×Nat)}{a:Act}{w:World}(al:ops[i]?=some o)
  (h:∀K:Act→World→Prop,(∀r ac,R w ac→bT P ops Q R rest r ac→K r ac)→if Region.wanted o (yielded ops a.tmps)=true then o.wp P a w K Q else K (a.put o.dst undef) w) :
  bT P ops Q R ((i,1)::rest) a w:=
 ⟨o,al,fun K hK=>h K fun r ac b8 hp=>hK r ac (fun _=>b8) hp⟩
theorem aq{i:Nat}{o:Oper}{rest:List (Nat×Nat)}{a:Act}{w:World}(al:ops[i]?=some o)
  (h:∀K:Act→World→Prop,(∀r ac,bT P ops Q R rest r ac→K r ac)→if Region.wanted o (yielded ops a.tmps)=true then o.wp P a w K Q else K (a.put o.dst undef) w) :
  bT P ops Q R ((i,2)::rest) a w:=
 ⟨o,al,fun K hK=>h K fun r ac hp=>hK r ac (fun h=>absurd h (by decide)) hp⟩
theorem aA{a:Act}{w:World}(h:Q .normal a w):bT P ops Q R [] a w:=h
end
inductive PT where
 | stop
 | free (i:Nat) (rest:PT)
 | held (i:Nat) (rest:PT)
 | pick (is:List Nat) (f:Nat→PT)
section
variable {P:Program} {ops:Array Oper} {Q:Exit→Act→World→Prop} {md:Region.Mode} {R:World→World→Prop}
def c5(P:Program)(ops:Array Oper)(Q:Exit→Act→World→Prop)(R:World→World→Prop)(tails:List Nat):PT→Act→World→Prop
 | .stop,a,w=>Q .normal a w
 | .free i rest,a,w=>∃o v,ops[i]?=some o∧YieldsIf P ops (fun _=>True) o v a∧c5 P ops Q R tails rest (a.put o.dst v) w
 | .held i rest,a,w=>∃o v,ops[i]?=some o∧YieldsIf P ops (R w) o v a∧c5 P ops Q R tails rest (a.put o.dst v) w
 | .pick is f,a,w=>∀i∈is,∃o,ops[i]?=some o∧∀K:Act→World→Prop,(∀r ac,(tails.contains i=false→R w ac)→c5 P ops Q R tails (f i) r ac→K r ac)→
   (if Region.wanted o (yielded ops a.tmps)=true then o.wp P a w K Q else K (a.put o.dst undef) w)
def mI(md:Region.Mode)(ops:Array Oper):PT→Nat→Array Bool→Bool
 | .stop,n,listed=>n == 0 && (Region.ready md ops listed).isEmpty
 | .free i rest,n,listed=>decide (0<n) && (Region.free md ops listed i && (Region.ready md ops listed).contains i && mI md ops rest (n - 1) (listed.setIfInBounds i true))
 | .held i rest,n,listed=>decide (0<n) && (Region.free md ops listed i && (Region.ready md ops listed).contains i && mI md ops rest (n - 1) (listed.setIfInBounds i true))
 | .pick is f,n,listed=>decide (0<n) && (!is.isEmpty && (Region.ready md ops listed == is) && is.all fun i=>mI md ops (f i) (n - 1) (listed.setIfInBounds i true))
def PT.nG:PT→List Nat
 | .stop=>[]
 | .free _ rest=>rest.nG
 | .held i rest=>i::rest.nG
 | .pick is f=>is.flatMap fun i=>(f i).nG
def wi(md:Region.Mode)(ops:Array Oper)(tails:List Nat)(p:PT):Bool:=
 Region.noSelect ops && (p.nG.all fun i=>tails.all fun j=>Cg md ops ops.size j i) && mI md ops p ops.size (Array.replicate ops.size false)
theorem wm(tails:List Nat)(t:∀a b c,R a b→R b c→R a c)(l:∀a,R a a)(g:∀(j:Nat) (o:Oper) cs b,ops[j]?=some o→o.op≠.select cs b)
  (hQ:∀c a d v w,Q (.panic c) (a.put d v) w→Q (.panic c) a w) :
  ∀(p:PT) (n:Nat) (listed:Array Bool) (a:Act) (w:World),jB md ops listed→mI md ops p n listed=true→
   (∀i∈p.nG,∀j∈tails,∃f,Cg md ops f j i=true)→c5 P ops Q R tails p a w→jY P md ops Q R (fun j=>!tails.contains j) n listed a w:=by
 intro p
 induction p with
 | stop=>
  intro n listed a w _ aL _ h;simp only[mI,Bool.and_eq_true,beq_iff_eq] at aL;obtain⟨rfl,aL⟩:=aL
  exact⟨by simpa using aL,h⟩
 | free i rest ao=>
  intro n listed a w inv aL aQ h;obtain⟨o,v,al,a4,h⟩:=h;simp only[mI,Bool.and_eq_true,decide_eq_true_eq] at aL;obtain⟨hn,⟨aD,hc⟩,aL⟩:=aL;obtain⟨m,rfl⟩:∃m,n=m+1:=⟨n - 1,by omega⟩
  have aU:i∈Region.ready md ops listed:=by simpa using hc
  exact hE (U:=fun _ _=>True) (fun _ _ _ _ _=>trivial) l (fun _=>trivial) al g (fun c a w=>hQ c a _ _ w) (.inl fun _ _=>trivial) m listed a w inv (Region.free_spec al aD) aU a4
   (ao m _ _ _ (inv.set aU) aL aQ h)
 | held i rest ao=>
  intro n listed a w inv aL aQ h;obtain⟨o,v,al,a4,h⟩:=h;simp only[mI,Bool.and_eq_true,decide_eq_true_eq] at aL;obtain⟨hn,⟨aD,hc⟩,aL⟩:=aL;obtain⟨m,rfl⟩:∃m,n=m+1:=⟨n - 1,by omega⟩
  have aU:i∈Region.ready md ops listed:=by simpa using hc
  refine hE (U:=R) t l l al g (fun c a w=>hQ c a _ _ w) (.inr fun j bc=>aQ i (by simp[PT.nG]) j (by simpa using bc)) m listed a w inv (Region.free_spec al aD) aU a4
   (ao m _ _ _ (inv.set aU) aL (fun i al=>aQ i (by simp[PT.nG,al])) h)
 | pick is f ao=>
  intro n listed a w inv aL aQ h;simp only[mI,Bool.and_eq_true,decide_eq_true_eq,beq_iff_eq] at aL;obtain⟨hn,⟨he,aU⟩,aL⟩:=aL;obtain⟨m,rfl⟩:∃m,n=m+1:=⟨n - 1,by omega⟩
  by_cases a1:is=[]
  ·subst a1;simp at he
  ·refine⟨fun h0=>absurd (by rw[←aU];exact h0) a1,fun j bc=>?_⟩;have e:=bc;rw[aU] at bc;obtain⟨o,al,h⟩:=h j bc;have s:=h (fun r ac=>((fun j=>!tails.contains j) j=true→R w ac)∧jY P md ops Q R (fun j=>!tails.contains j) m (listed.setIfInBounds j true) r ac) fun r ac b8 hp=>
    ⟨fun hT=>b8 (by simpa using hT),ao j m _ _ _ (inv.set e) (by simpa using List.all_eq_true.1 aL j bc) (fun i al=>aQ i (by simp only[PT.nG,List.mem_flatMap];exact⟨j,bc,al⟩)) hp⟩
   unfold Go.wpOp;simp only[al];split
   ·rename_i hw;rw[if_pos hw] at s;exact .inl s
   ·rename_i hw;rw[if_neg hw] at s;exact s
theorem qo(R:World→World→Prop)(tails:List Nat)(p:PT){id:Nat}{a:Act}{w:World}(hm:P.follows .mixedOrders=true)(aL:wi .any ops tails p=true)
  (l:∀a,R a a) (t:∀a b c,R a b→R b c→R a c) (hQ:∀c a d v w,Q (.panic c) (a.put d v) w→Q (.panic c) a w)
  (h:c5 P ops Q R tails p a w.drew):(Code.region id ops true).wp P Q a w:=by
 simp only[wi,Bool.and_eq_true] at aL;obtain⟨⟨hs,aV⟩,hp⟩:=aL;refine wp_region_any hm (lZ (R:=R) (T:=fun j=>!tails.contains j) _ _ _ _ ?_);refine wm tails t l (Region.noSelect_spec hs) hQ p ops.size _ a _ (fun j n _ bc=>?_) hp (fun i al j bc=>?_) h
 ·rw[getD_replicate_false] at bc;cases bc
 ·have ae:=List.all_eq_true.1 aV i al;exact⟨_,List.all_eq_true.1 ae j bc⟩
variable {tails:List Nat}
theorem cf{i:Nat}{o:Oper}{v:Value}{rest:PT}{a:Act}{w:World}(al:ops[i]?=some o)(hw:Region.wanted o (yielded ops a.tmps)=true)
  (bD:∀V,R w V→(execOp a.eval o).run P V=.ok (.value v) V) (h:c5 P ops Q R tails rest (a.put o.dst v) w):c5 P ops Q R tails (.held i rest) a w:=
 ⟨o,v,al,.inl ⟨hw,bD⟩,h⟩
theorem k2{i:Nat}{o:Oper}{v:Value}{rest:PT}{a:Act}{w:World}(al:ops[i]?=some o)(hw:Region.wanted o (yielded ops a.tmps)=true)
  (bD:∀V,(execOp a.eval o).run P V=.ok (.value v) V) (h:c5 P ops Q R tails rest (a.put o.dst v) w):c5 P ops Q R tails (.free i rest) a w:=
 ⟨o,v,al,.inl ⟨hw,fun V _=>bD V⟩,h⟩
def rI(P:Program)(ops:Array Oper)(Q:Exit→Act→World→Prop)(R:World→World→Prop)(tails:List Nat)(i:Nat)(p:PT)(a:Act)(w:World):Prop:=
 ∃o,ops[i]?=some o∧∀K:Act→World→Prop,(∀r ac,(tails.contains i=false→R w ac)→c5 P ops Q R tails p r ac→K r ac)→
   (if Region.wanted o (yielded ops a.tmps)=true then o.wp P a w K Q else K (a.put o.dst undef) w)
theorem aE{i:Nat}{o:Oper}{p:PT}{a:Act}{w:World}(al:ops[i]?=some o)
  (h:∀K:Act→World→Prop,(∀r ac,R w ac→c5 P ops Q R tails p r ac→K r ac)→if Region.wanted o (yielded ops a.tmps)=true then o.wp P a w K Q else K (a.put o.dst undef) w)
  (hT:tails.contains i=false):rI P ops Q R tails i p a w:=⟨o,al,fun K hK=>h K fun r ac b8=>hK r ac fun _=>b8⟩
theorem bS{i:Nat}{o:Oper}{p:PT}{a:Act}{w:World}(al:ops[i]?=some o)
  (h:∀K:Act→World→Prop,(∀r ac,c5 P ops Q R tails p r ac→K r ac)→if Region.wanted o (yielded ops a.tmps)=true then o.wp P a w K Q else K (a.put o.dst undef) w)
  (hT:tails.contains i=true):rI P ops Q R tails i p a w:=⟨o,al,fun K hK=>h K fun r ac hp=>hK r ac (fun h=>by rw[hT] at h;cases h) hp⟩
theorem ao{i:Nat}{f:Nat→PT}{a:Act}{w:World}(h:rI P ops Q R tails i (f i) a w):c5 P ops Q R tails (.pick [i] f) a w:=fun j bc=>by
 have:j=i:=by simpa using bc
 subst this;exact h
theorem bq{i j:Nat}{f:Nat→PT}{a:Act}{w:World}(h:rI P ops Q R tails i (f i) a w)(aC:rI P ops Q R tails j (f j) a w):c5 P ops Q R tails (.pick [i,j] f) a w:=fun k aj=>by
 simp only[List.mem_cons,List.not_mem_nil,or_false] at aj;rcases aj with rfl|rfl
 ·exact h
 ·exact aC
theorem cw{a:Act}{w:World}(h:Q .normal a w):c5 P ops Q R tails .stop a w:=h
theorem k3{rest:PT}{aa:Nat→Act}{C:Nat→World→Prop}{G:Prop}(h:(∀g V,C g V→c5 P ops Q R tails rest (aa g) V)→G)(key:∀g V,C g V→c5 P ops Q R tails rest (aa g) V):G:=h key
end
theorem ad{p:Prop}(h:p):Kt p:=h
theorem CQ{a b:Int}{k:IntKind}(h:a=b):Value.int k a=Value.int k b:=by rw[h]
theorem ret_int{a b:Int}{k:IntKind}(h:a=b):Ending.returned (.int k a)=.returned (.int k b):=by rw[h]
theorem ret_bool{a b:Bool}(h:a=b):Ending.returned (.bool a)=.returned (.bool b):=by rw[h]
theorem a9{α:Type}{l:List α}{k:Nat}{x:α}(h:l[k]?=some x):l.take (k+1)=l.take k++[x]:=by
 rw[List.take_add_one,h];rfl
theorem Ej(x y:Int):(if y > x then y else x)=max x y:=by
 by_cases h:x≤y<;>simp[Int.max_def,h]<;>omega
theorem Ek(x y:Int):(if y<x then y else x)=min x y:=by
 by_cases h:x≤y<;>simp[Int.min_def,h]<;>omega
theorem fW(P:Program)(w:World)(a:Array TypeId)(t:TypeId)(k F:IntKind)(x y:Int):(Builtin.max_ a t #[.int k x,.int F y]).run P w=.ok (.int k (max x y)) w:=by
 rw[run_max_int2,Ej]
theorem fX(P:Program)(w:World)(a:Array TypeId)(t:TypeId)(k F:IntKind)(x y:Int):(Builtin.min_ a t #[.int k x,.int F y]).run P w=.ok (.int k (min x y)) w:=by
 rw[run_min_int2,Ek]
theorem dt{B:Nat}{a w:World}(h:Below B a w)(n:Nat):Below B a (w.drewN n):=⟨h.os,h.tape,h.output,h.size,h.block⟩
def cC{α:Type}(E:World→Nat→α→List Value→Prop)(sz:Nat)(w:World)(B:Nat)(A:Kr)(n:Nat)(l:List α):Prop:=
 l.length=n∧(0<n→∃b o,A=some ⟨b,o,none⟩∧b<B∧∀k x,l[k]?=some x→∃cs:List Value,E w B x cs∧cs.length=sz∧∀j v,cs[j]?=some v→w.cell? ⟨b,o+k*sz+j,none⟩=some v)
section
variable {α:Type} {E:World→Nat→α→List Value→Prop} {sz:Nat} {w ac:World} {B q n:Nat} {A:Kr} {l:List α}
theorem cC.bG(A:Kr):cC E sz w B A 0 ([]:List α):=⟨rfl,fun h=>absurd h (by omega)⟩
theorem cC.aj(h:cC E sz w B A n l)(O:Below B w ac)(aF:∀x cs,E w B x cs→E ac B x cs):cC E sz ac B A n l:=by
 refine⟨h.1,fun hn=>?_⟩;obtain⟨b,o,bk,an,hc⟩:=h.2 hn;refine⟨b,o,bk,an,fun k x hx=>?_⟩;obtain⟨cs,he,hl,bc⟩:=hc k x hx;exact⟨cs,aF _ _ he,hl,fun j v bD=>(O.cell (p:=⟨b,_,none⟩) an).trans (bc j v bD)⟩
theorem cC.more(h:cC E sz w B A n l)(aL:B≤q)(aF:∀x cs,E w B x cs→E w q x cs):cC E sz w q A n l:=by
 refine⟨h.1,fun hn=>?_⟩;obtain⟨b,o,bk,an,hc⟩:=h.2 hn;refine⟨b,o,bk,by omega,fun k x hx=>?_⟩;obtain⟨cs,he,hl,bc⟩:=hc k x hx;exact⟨cs,aF _ _ he,hl,bc⟩
end
def EF{α:Type}(f:α→List Value):World→Nat→α→List Value→Prop:=fun _ _ x cs=>cs=f x
section
variable {α:Type} {f:α→List Value} {sz:Nat} {w ac:World} {B q n:Nat} {A:Kr} {l:List α}
theorem cC.fS(h:cC (EF f) sz w B A n l)(O:Below B w ac):cC (EF f) sz ac B A n l:=h.aj O fun _ _ h=>h
theorem cC.HH(h:cC (EF f) sz w B A n l)(aL:B≤q):cC (EF f) sz w q A n l:=h.more aL fun _ _ h=>h
theorem cC.cO(h:cC (EF f) sz w B A n l)(O:Below B w ac)(aL:B≤q):cC (EF f) sz ac q A n l:=(h.fS O).HH aL
theorem cC.Hp(h:cC (EF f) sz w B A n l){k:Nat}(aj:k<n) :
  ∃b o x,A=some ⟨b,o,none⟩∧b<B∧l[k]?=some x∧(f x).length=sz∧∀j v,(f x)[j]?=some v→w.cell? ⟨b,o+k*sz+j,none⟩=some v:=by
 obtain⟨b,o,bk,O,hc⟩:=h.2 (by omega);have hm:l[k]?=some (l[k]'(by have:=h.1;omega)):=List.getElem?_eq_getElem _;obtain⟨cs,he,hl,bc⟩:=hc k _ hm;rw[EF] at he;subst he;exact⟨b,o,_,bk,O,hm,hl,bc⟩
theorem cC.some_(h:cC (EF f) sz w B A n l)(aj:0<n):∃b o,A=some ⟨b,o,none⟩∧b<B:=by
 obtain⟨b,o,bk,O,_⟩:=h.2 aj;exact⟨b,o,bk,O⟩
end
theorem fp{α:Type}(f:α→List Value)(sz:Nat):∀(l:List α),(∀x∈l,(f x).length=sz)→∀k x,l[k]?=some x→∀j,j<sz→(l.flatMap f)[k*sz+j]?=(f x)[j]?
 | [],_,k,x,h,_,_=>by simp at h
 | a::l,hs,0,x,h,j,bc=>by
  have aV:=hs a (by simp);simp only[List.getElem?_cons_zero,Option.some.injEq] at h;subst h;simp only[List.flatMap_cons,Nat.zero_mul,Nat.zero_add]
  rw[List.getElem?_append_left (by omega)]
 | a::l,hs,k+1,x,h,j,bc=>by
  have aV:=hs a (by simp);simp only[List.getElem?_cons_succ] at h;have ao:=fp f sz l (fun y a4=>hs y (by simp[a4])) k x h j bc;simp only[List.flatMap_cons];rw[List.getElem?_append_right (by rw[aV,Nat.succ_mul];omega),aV,←ao];congr 1
  rw[Nat.succ_mul];omega
theorem fR{α:Type}(f:α→List Value)(sz:Nat)(l:List α)(hs:∀x∈l,(f x).length=sz):(l.flatMap f).length=l.length*sz:=by
 induction l with
 | nil=>simp
 | cons a l ao=>
  rw[List.flatMap_cons,List.length_append,hs a (by simp),ao (fun x hx=>hs x (by simp[hx])),List.length_cons,Nat.succ_mul];omega
theorem bs{w:World}{base:Nat}{e:TypeId}{sz:Nat}{v:Value}{n:Nat}{xs:List Value}(h:w.ownsRow base e sz v n xs) :
  ∃A c,v=.slice A n c∧n≤c∧c≤maxLen∧(A=none→n=0∧c=0)∧∀k,A=some k→∃g,k=⟨g,0,none⟩∧base≤g∧g<w.heap.size:=by
 rcases h.2 with⟨rfl,rfl⟩|⟨g,cap,cur,rfl,O,aJ,hn,hc,_⟩
 ·exact⟨none,0,rfl,Nat.le_refl _,by simp,fun _=>⟨rfl,rfl⟩,fun _ h=>nomatch h⟩
 ·exact⟨_,_,rfl,hn,hc,(fun h=>nomatch h),fun k h=>(by injection h with h;exact⟨g,h.symm,O,(Array.getElem?_eq_some_iff.1 aJ).1⟩)⟩
theorem gS{α:Type}{f:α→List Value}{w:World}{base:Nat}{e:TypeId}{sz:Nat}{A:Kr}{n c:Nat}{l:List α}
  (h:w.ownsRow base e sz (.slice A n c) n (l.flatMap f)) (hs:∀x∈l,(f x).length=sz) (hl:l.length=n):cC (EF f) sz w w.heap.size A n l:=by
 refine⟨hl,fun hn=>?_⟩;rcases h.2 with⟨bD,h0⟩|⟨g,cap,cur,bD,_,aJ,bJ,_,T,a⟩
 ·omega
 ·injection bD with bk _ _;subst bk;refine⟨g,0,rfl,(Array.getElem?_eq_some_iff.1 aJ).1,fun k x hx=>⟨f x,rfl,hs x (List.mem_of_getElem? hx),fun j v bc=>?_⟩⟩;have y:j<sz:=by
   have:=hs x (List.mem_of_getElem? hx);have:=(List.getElem?_eq_some_iff.1 bc).1;omega
  have J:k<l.length:=(List.getElem?_eq_some_iff.1 hx).1;have ch:=fp f sz l hs k x hx j y;rw[bc,←a,List.getElem?_take] at ch;split at ch
  ·rw[cell_of_row w g _ cur e (0,0) aJ,Nat.zero_add];simpa using ch
  ·cases ch
theorem yc{w ac:World}{base B:Nat}{e:TypeId}{sz:Nat}{v:Value}{n:Nat}{xs:List Value}(h:w.ownsRow base e sz v n xs)(O:Below B w ac)(aL:∀g,v.ownBlock=some g→g<B):ac.ownsRow base e sz v n xs:=by
 refine⟨h.1,?_⟩;rcases h.2 with aC|⟨g,cap,cur,rfl,j,aJ,rest⟩
 ·exact .inl aC
 ·exact .inr ⟨g,cap,cur,rfl,j,(O.block g (aL g rfl)).trans aJ,rest⟩
theorem b5{w ac:World}{base:Nat}{e:TypeId}{sz:Nat}{v:Value}{n:Nat}{xs:List Value}(h:w.ownsRow base e sz v n xs)(O:Below w.heap.size w ac):ac.ownsRow base e sz v n xs:=
 yc h O fun g aJ=>(h.lt g aJ).2
theorem hR{w:World}{base:Nat}{e:TypeId}{sz:Nat}{A:Kr}{n c:Nat}{xs:List Value}(h:w.ownsRow base e sz (.slice A n c) n xs)(hn:0<n) :
  ∃g,A=some ⟨g,0,none⟩∧base≤g∧g<w.heap.size∧(∀j u,xs[j]?=some u→w.cell? ⟨g,j,none⟩=some u)∧(∀j,w.frozen? ⟨g,j,none⟩=false)∧
   ∀j u,j<n*sz→(w.setCell ⟨g,j,none⟩ u).ownsRow base e sz (.slice A n c) n (xs.set j u):=by
 rcases h.2 with⟨bD,h0⟩|⟨g,cap,cur,bD,O,aJ,bJ,v,T,a⟩
 ·omega
 ·injection bD with bk _ hc;subst bk hc;refine⟨g,rfl,O,(Array.getElem?_eq_some_iff.1 aJ).1,fun j u hu=>?_,fun j=>?_,fun j u bc=>⟨by rw[List.length_set];exact h.1,.inr ⟨g,c,cur.setIfInBounds j u,rfl,O,?_,bJ,v,by simpa using T,?_⟩⟩⟩
  ·rw[←a,List.getElem?_take] at hu;split at hu
   ·rw[cell_of_row w g j cur e (0,0) aJ];simpa using hu
   ·cases hu
  ·simp[World.frozen?,aJ]
  ·simp[World.setCell,Array.getElem?_modify,aJ]
  ·rw[←a,Array.toList_setIfInBounds,List.take_set]
theorem jK{α:Type}(f:α→List Value)(sz:Nat):∀(l:List α),(∀x∈l,(f x).length=sz)→∀k x,l[k]?=some x→∀j u y,j<sz→(f x).set j u=f y→(l.flatMap f).set (k*sz+j) u=(l.set k y).flatMap f
 | [],_,k,x,h,_,_,_,_,_=>by simp at h
 | a::l,hs,0,x,h,j,u,y,bc,a4=>by
  have aV:=hs a (by simp);simp only[List.getElem?_cons_zero,Option.some.injEq] at h;subst h;simp only[List.flatMap_cons,Nat.zero_mul,Nat.zero_add,List.set_cons_zero]
  rw[List.set_append_left _ _ (by omega),a4]
 | a::l,hs,k+1,x,h,j,u,y,bc,a4=>by
  have aV:=hs a (by simp);simp only[List.getElem?_cons_succ] at h;have ao:=jK f sz l (fun y a4=>hs y (by simp[a4])) k x h j u y bc a4;simp only[List.flatMap_cons,List.set_cons_succ];rw[List.set_append_right _ _ (by rw[aV,Nat.succ_mul];omega),aV,←ao];congr 2
  rw[Nat.succ_mul];omega
def Src(w:World)(sz:Nat)(A:Kr)(m:Nat)(news:List Value):Prop:=
 news.length=m*sz∧(∀u∈news,u.oneCell'=true)∧(0<m→∃b o,A=some ⟨b,o,none⟩∧∀j u,news[j]?=some u→w.cell? ⟨b,o+j,none⟩=some u)
theorem Src.one{w:World}{b:Nat}{u:Value}(h:w.cell? ⟨b,0,none⟩=some u)(ae:u.oneCell'=true):Src w 1 (some ⟨b,0,none⟩) 1 [u]:=
 ⟨rfl,by simpa using ae,fun _=>⟨b,0,rfl,fun j v bc=>by
  cases j with
  | zero=>simp at bc;subst bc;exact h
  | succ j=>simp at bc⟩⟩
theorem Src.block{w:World}{g:Nat}{e:TypeId}{xs:Array Value}{sz:Nat}(aJ:w.heap[g]?=some (.cells xs e (0,0)))(m:Nat)(hm:xs.size=m*sz)(ae:∀u∈xs.toList,u.oneCell'=true) :
  Src w sz (some ⟨g,0,none⟩) m xs.toList:=
 ⟨by simpa using hm,ae,fun _=>⟨g,0,rfl,fun j u bc=>by
  rw[Nat.zero_add,cell_of_row w g j xs e (0,0) aJ];simpa using bc⟩⟩
theorem Src.nP{α:Type}{f:α→List Value}{sz:Nat}{w:World}{B n:Nat}{A:Kr}{l:List α}(h:cC (EF f) sz w B A n l)(hs:∀x∈l,(f x).length=sz)(ae:∀x∈l,∀u∈f x,u.oneCell'=true)(bi:0<sz) :
  Src w sz A n (l.flatMap f):=by
 refine⟨by rw[fR f sz l hs,h.1],fun u hu=>?_,fun hn=>?_⟩
 ·obtain⟨x,hx,hu⟩:=List.mem_flatMap.1 hu;exact ae x hx u hu
 ·obtain⟨b,o,bk,_,hc⟩:=h.2 hn;refine⟨b,o,bk,fun j u bc=>?_⟩;have aT:=(List.getElem?_eq_some_iff.1 bc).1;rw[fR f sz l hs] at aT;have J:j / sz<l.length:=by rw[Nat.div_lt_iff_lt_mul bi];exact aT
  have hx:l[j / sz]?=some (l[j / sz]'J):=List.getElem?_eq_getElem J;have d:=Nat.mod_lt j bi;have a:j / sz*sz+j % sz=j:=Nat.div_add_mod' j sz;have ch:=fp f sz l hs _ _ hx (j % sz) d;rw[a,bc] at ch;obtain⟨cs,he,_,c⟩:=hc _ _ hx;rw[EF] at he;subst he;have:=c _ _ ch.symm
  rwa [Nat.add_assoc,a] at this
def bX(P:Program)(t e:TypeId)(z:Value)(size bytes:Nat):Prop:=
 ∃i,P.underlying t=some (.slice e)∧P.info? e=some i∧i.zero=some z∧i.size=size∧i.bytes=bytes∧z.cells.size=size∧0<size
theorem bX.mk'{P:Program}{t e:TypeId}{z:Value}{size bytes:Nat}(ht:P.underlying t=some (.slice e))(al:(P.info? e).map (fun i=>(i.zero,i.size,i.bytes))=some (some z,size,bytes))(bi:z.cells.size=size)(h0:0<size):bX P t e z size bytes:=by
 obtain⟨i,ae,aC,aT,a9⟩:=info_parts al;exact⟨i,ht,ae,aC,aT,a9,bi,h0⟩
section
variable {P:Program} (w:World)
theorem tZ(base:Nat)(t ty e:TypeId)(i:TypeInfo)(size:Nat)(ht:P.underlying t=some (.slice e))(al:P.info? e=some i)
  (v:Value) (n:Nat) (xs:List Value) (S:w.ownsRow base e size v n xs) (c:Nat):(Builtin.append_ #[t,t] ty #[v,.slice none 0 c]).run P w=.ok v w:=by
 rcases S.2 with⟨rfl,rfl⟩|⟨g,cap,cur,rfl,_,_,bJ,_⟩
 ·simp[Builtin.append_,run_underlying ht,sizeOf,typeInfo,al,Builtin.lenOf,Builtin.firstCells]
 ·simp[Builtin.append_,run_underlying ht,sizeOf,typeInfo,al,Builtin.lenOf,Builtin.firstCells,bJ,storeCells]
theorem EO{t e:TypeId}{z:Value}{size bytes:Nat}(bk:bX P t e z size bytes)(base:Nat)(ty:TypeId)(v:Value)(n:Nat)(xs:List Value)(S:w.ownsRow base e size v n xs)
  (A:Kr) (m c:Nat) (news:List Value) (hs:Src w size A m news) (y:(n+m)*bytes≤140737488355328) (C:n+m≤140737488355328) (r:base≤w.heap.size) (d:A=none→m=0) :
  ∃G ac,(Builtin.append_ #[t,t] ty #[v,.slice A m c]).run P w=.ok G ac∧ac.ownsRow base e size G (n+m) (xs++news)∧w.grownBy ac v.ownBlock∧
   (G.ownBlock=v.ownBlock∨G.ownBlock=some w.heap.size):=by
 obtain⟨i,ht,al,bi,a,T,bu,U⟩:=bk;rcases A with _|k
 ·have hm:=d rfl;subst hm;have hn:news=[]:=List.eq_nil_of_length_eq_zero (by simpa using hs.1);subst hn;exact⟨v,w,tZ w base t ty e i size ht al v n xs S c,by simpa using S,World.grownBy.refl w _,.inl rfl⟩
 ·have aY:∀j u,news[j]?=some u→w.cell? (k.add j)=some u:=by
   intro j u hu;rcases Nat.eq_zero_or_pos m with h0|h0
   ·subst h0;have hn:news=[]:=List.eq_nil_of_length_eq_zero (by simpa using hs.1);subst hn;simp at hu
   ·obtain⟨b,o,h,hc⟩:=hs.2.2 h0;injection h with h;subst h;have:=hc j u hu;by_cases bc:j=0
    ·subst bc;simpa[Addr.add] using this
    ·simpa[Addr.add,bc] using this
  obtain⟨G,ac,H,aC,aT,_,cl⟩:=run_append_own_at (P:=P) w base t ty e i z size bytes ht al bi a T bu U v n xs S k m c news hs.1 aY hs.2.1 (by simp only[maxLen];omega) y r;exact⟨G,ac,H,aC,aT,cl⟩
theorem jZ{o:Oper}{a:Act}{K:Act→World→Prop}{Q:Exit→Act→World→Prop}{t e:TypeId}{z:Value}{size bytes:Nat}(bk:bX P t e z size bytes)(s x:Operand)
  (a8:o.op=.call {callee:=.builtin .append,args:=#[s,x],argTypes:=#[t,t]})
  (base:Nat) (v:Value) (n:Nat) (xs:List Value) (hs:a.eval s=v) (S:w.ownsRow base e size v n xs)
  (A:Kr) (m c:Nat) (news:List Value) (hx:a.eval x=.slice A m c) (aU:Src w size A m news)
  (y:(n+m)*bytes≤140737488355328) (C:n+m≤140737488355328) (r:base≤w.heap.size) (d:A=none→m=0)
  (h:∀G ac,ac.ownsRow base e size G (n+m) (xs++news)→w.grownBy ac v.ownBlock→(G.ownBlock=v.ownBlock∨G.ownBlock=some w.heap.size)→K (a.put o.dst G) ac):o.wp P a w K Q:=by
 obtain⟨G,ac,H,aC,aT,a9⟩:=EO (P:=P) w bk base o.type v n xs S A m c news aU y C r d;unfold Oper.wp execOp;simp only[a8,resolve,invoke,builtin,Sem.run_bind,Sem.run_pure,Result.andThen_ok,List.map_toArray,List.map_cons,List.map_nil,hs,hx,H];exact h G ac aC aT a9
theorem qk{ops:Array Oper}{rest:List Oper}{o:Oper}{a:Act}{Q:Exit→Act→World→Prop}{t e:TypeId}{z:Value}{size bytes:Nat}(bk:bX P t e z size bytes)(i:o.guard=none)(s x:Operand)
  (a8:o.op=.call {callee:=.builtin .append,args:=#[s,x],argTypes:=#[t,t]})
  (base:Nat) (v:Value) (n:Nat) (xs:List Value) (hs:a.eval s=v) (S:w.ownsRow base e size v n xs)
  (A:Kr) (m c:Nat) (news:List Value) (hx:a.eval x=.slice A m c) (aU:Src w size A m news)
  (y:(n+m)*bytes≤140737488355328) (C:n+m≤140737488355328) (r:base≤w.heap.size) (d:A=none→m=0)
  (h:∀G ac,ac.ownsRow base e size G (n+m) (xs++news)→w.grownBy ac v.ownBlock→(G.ownBlock=v.ownBlock∨G.ownBlock=some w.heap.size)→wpList P ops Q rest (a.put o.dst G) ac):wpList P ops Q (o::rest) a w:=
 wpList_plain i fun _ hK=>jZ w bk s x a8 base v n xs hs S A m c news hx aU y C r d fun G ac aC aT a9=>hK _ _ (h G ac aC aT a9)
end
theorem ch{P:Program}(J:World){ops:Array Oper}{rest:List Oper}{o:Oper}{a:Act}{Q:Exit→Act→World→Prop}{t e:TypeId}{z:Value}{size bytes:Nat}(bk:bX P t e z size bytes)(i:o.guard=none)(s x:Operand)
  (a8:o.op=.call {callee:=.builtin .append,args:=#[s,x],argTypes:=#[t,t]})
  (base:Nat) (v:Value) (n:Nat) (xs:List Value) (cs:Array Value) (hs:a.eval s=v) (S:J.ownsRow base e size v n xs)
  (hx:a.eval x=.slice (some ⟨J.heap.size,0,none⟩) 1 1) (T:cs.size=size) (ae:∀u∈cs.toList,u.oneCell'=true)
  (y:(n+1)*bytes≤140737488355328) (C:n+1≤140737488355328) (r:base≤J.heap.size)
  (h:∀G ac,ac.ownsRow base e size G (n+1) (xs++cs.toList)→J.grownBy ac v.ownBlock→(G.ownBlock=v.ownBlock∨G.ownBlock=some (J.heap.size+1))→wpList P ops Q rest (a.put o.dst G) ac):wpList P ops Q (o::rest) a (J.alloc (.cells cs e)):=by
 refine qk _ bk i s x a8 base v n xs hs (S.alloc _) _ 1 1 cs.toList hx (Src.block (heap_alloc_new J _) 1 (by omega) ae) y C (by simp;omega) (fun h=>nomatch h) fun G ac aC aT a9=>?_;refine h G ac aC ⟨aT.os,aT.tape,aT.output,by have:=aT.size;simp at this;omega,fun k aj a1=>(aT.block k (by simp;omega) a1).trans (Below.heap_alloc J _ k aj)⟩ ?_;simpa using a9
theorem Src.on{w ac:World}{sz m:Nat}{A:Kr}{news:List Value}(h:Src w sz A m news)(O:Below w.heap.size w ac):Src ac sz A m news:=by
 refine⟨h.1,h.2.1,fun hm=>?_⟩;obtain⟨b,o,bk,hc⟩:=h.2.2 hm;refine⟨b,o,bk,fun j u bc=>?_⟩;have c:=hc j u bc;exact(O.cell (p:=⟨b,o+j,none⟩) (World.block_lt_of_cell? w _ c)).trans c
theorem iR{P:Program}(J:World){ops:Array Oper}{rest:List Oper}{o:Oper}{a:Act}{Q:Exit→Act→World→Prop}{t e:TypeId}{z:Value}{size bytes:Nat}(bk:bX P t e z size bytes)(i:o.guard=none)(s x:Operand)
  (a8:o.op=.call {callee:=.builtin .append,args:=#[s,x],argTypes:=#[t,t]})
  (hs:a.eval s=.slice (some ⟨J.heap.size,0,none⟩) 0 0) (A:Kr) (m c:Nat) (news:List Value) (hx:a.eval x=.slice A m c) (aU:Src J size A m news)
  (y:m*bytes≤140737488355328) (C:m≤140737488355328) (d:A=none→m=0)
  (h:∀I az ac,ac.ownsRow J.heap.size e size (.slice I m az) m news→Below J.heap.size J ac→wpList P ops Q rest (a.put o.dst (.slice I m az)) ac):wpList P ops Q (o::rest) a (J.alloc (.cells #[] e)):=by
 have S:(J.alloc (.cells #[] e)).ownsRow J.heap.size e size (.slice (some ⟨J.heap.size,0,none⟩) 0 0) 0 []:=World.ownsRow_made J #[] 0 (Nat.le_refl _) (Nat.zero_le _) (by simp);refine qk _ bk i s x a8 J.heap.size _ 0 [] hs S A m c news hx (aU.on ((Below.refl _ _).alloc (Nat.le_refl _) _)) (by rw[Nat.zero_add];exact y) (by omega) (by simp) d fun G ac aC aT a9=>?_;simp only[Nat.zero_add,List.nil_append] at aC;have O:Below J.heap.size J ac:=((Below.refl _ _).alloc (Nat.le_refl _) _).grown aT (by simp) (by simp[Value.ownBlock]);obtain⟨I,az,rfl,_⟩:=bs aC;exact h I az ac aC O
theorem dJ{B:Nat}{a w ac:World}{base:Nat}{e:TypeId}{sz:Nat}{v:Value}{n:Nat}{xs:List Value}(h:Below B a w)(S:w.ownsRow base e sz v n xs)(aJ:w.grownBy ac v.ownBlock)(aL:B≤base)(a8:B≤w.heap.size):Below B a ac:=
 h.grown aJ a8 fun k aj=>Nat.le_trans aL (S.lt k aj).1
section
variable {P:Program} {t e:TypeId} {z:Value} {size bytes:Nat}
theorem run_mk(bk:bX P t e z size bytes)(kl kc:IntKind)(n:Nat)(O:bytes*n≤281474976710656)(C:n≤281474976710656)(w:World) :
  (Instr.makeSlice t (.int kl (n:Int)) (.int kc (n:Int))).run P w=.ok (.slice (some ⟨w.heap.size,0,none⟩) n n) (w.alloc (.cells (madeCells z.cells (n*size)) e)):=by
 obtain⟨i,ht,al,bi,a,T,bu,U⟩:=bk;have b:(i.bytes:Int)*(n:Int)≤281474976710656:=by
  have h:((i.bytes*n:Nat):Int)≤281474976710656:=by rw[T];omega
  rwa [Int.natCast_mul] at h
 have aU:=run_make (P:=P) w t e i z ht al bi kl kc n n (by omega) (by omega) b (by omega);simp only[Int.toNat_natCast] at aU;rw[aU,a]
theorem x4{α:Type}{f:α→List Value}{x:α}{zc:Array Value}{sz:Nat}(bi:zc.toList=f x)(hs:(f x).length=sz)(h0:0<sz)(n:Nat):(madeCells zc (n*sz)).toList=(List.replicate n x).flatMap f:=by
 have bu:zc.size=sz:=by rw[←Array.length_toList,bi,hs]
 apply List.ext_getElem?
 intro j;by_cases bc:j<n*sz
 ·have aj:j / sz<n:=by rw[Nat.div_lt_iff_lt_mul h0];exact bc
  have hm:=Nat.mod_lt j h0;have hx:(List.replicate n x)[j / sz]?=some x:=by rw[List.getElem?_replicate,if_pos aj]
  have:=fp f sz (List.replicate n x) (fun y a4=>by rw[(List.mem_replicate.1 a4).2];exact hs) _ _ hx _ hm;rw[Nat.div_add_mod'] at this;rw[this,←bi];have a9:j % zc.size<zc.size:=by rw[bu];exact hm
  simp only[madeCells,Array.getElem?_toList,Array.getElem?_map,Array.getElem?_range,bc,if_pos,Option.map_some];rw[←bu,getElem!_pos zc _ a9,Array.getElem?_eq_getElem a9]
 ·rw[List.getElem?_eq_none (by rw[Array.length_toList,size_madeCells];omega),List.getElem?_eq_none (by rw[fR f sz _ (fun y a4=>by rw[(List.mem_replicate.1 a4).2];exact hs),List.length_replicate];omega)]
theorem C6{α:Type}{f:α→List Value}{x:α}{zc:Array Value}{sz:Nat}(bi:zc.toList=f x)(hs:(f x).length=sz)(h0:0<sz)(n:Nat)(hn:n≤281474976710656){w:World}{base:Nat}(O:base≤w.heap.size) :
  (w.alloc (.cells (madeCells zc (n*sz)) e)).ownsRow base e sz (.slice (some ⟨w.heap.size,0,none⟩) n n) n ((List.replicate n x).flatMap f):=by
 rw[←x4 bi hs h0 n];exact World.ownsRow_lit w _ n O (by unfold maxLen;omega) (size_madeCells _ _)
end
def b2(x:Int):List Value:=[.int .i64 x]
def nX(x:ByteArray):List Value:=[.string x]
theorem cC.int{w:World}{B n:Nat}{A:Kr}{l:List Int}(h:cC (EF b2) 1 w B A n l){k:Nat}(aj:k<n) :
  ∃b o x,A=some ⟨b,o,none⟩∧b<B∧l[k]?=some x∧w.cell? ⟨b,o+k,none⟩=some (.int .i64 x):=by
 obtain⟨b,o,x,bk,O,hx,_,hc⟩:=h.Hp aj;have:=hc 0 _ rfl;simp only[Nat.mul_one,Nat.add_zero] at this;exact⟨b,o,x,bk,O,hx,this⟩
theorem cC.str{w:World}{B n:Nat}{A:Kr}{l:Ks}(h:cC (EF nX) 1 w B A n l){k:Nat}(aj:k<n) :
  ∃b o x,A=some ⟨b,o,none⟩∧b<B∧l[k]?=some x∧w.cell? ⟨b,o+k,none⟩=some (.string x):=by
 obtain⟨b,o,x,bk,O,hx,_,hc⟩:=h.Hp aj;have:=hc 0 _ rfl;simp only[Nat.mul_one,Nat.add_zero] at this;exact⟨b,o,x,bk,O,hx,this⟩
theorem CD(l:List Int):l.flatMap b2=l.map (Value.int .i64):=by
 induction l with
 | nil=>rfl
 | cons a l ao=>rw[List.flatMap_cons,ao];rfl
theorem e6(l:List Int)(x:Int):(l++[x]).flatMap b2=l.flatMap b2++[.int .i64 x]:=by
 rw[List.flatMap_append];rfl
theorem js(k:IntKind)(x:Int):∀u∈(#[Value.int k x]:Array Value).toList,u.oneCell'=true:=by
 intro u hu;simp at hu;subst hu;rfl
theorem ib(l:List Int):∀x∈l,(b2 x).length=1:=fun _ _=>rfl
theorem row_slr{k:IntKind}{w:World}{a:Kr}{len cap:Nat}{b:List Int}
  (h:(a=none∧len=0∧cap=0∧b=[])∨∃x,a=some x∧len≤cap∧cap≤maxLen∧b.length=cap∧(∀i,i<b.length→w.cell? (x.add i)=some (.int k (b.getD i 0)))∧∀n∈b,(Lit.int k n).wf=true) (aj:k=.i64) :
  cC (EF b2) 1 w w.heap.size a len (b.take len):=by
 subst aj;rcases h with⟨rfl,rfl,rfl,rfl⟩|⟨x,rfl,aJ,_,bi,hc,_⟩
 ·exact cC.bG _
 ·refine⟨by simp;omega,fun hn=>?_⟩;have h0:=hc 0 (by omega);have hx:x.spot=none:=by
   have ae:w.cell? x=some (.int .i64 (b.getD 0 0)):=by simpa[Addr.add] using h0
   cases hs:x.spot with
   | none=>rfl
   | some s=>
    rw[World.cell?] at ae;split at ae
    ·rw[hs] at ae;simp at ae
    ·cases ae
  have aX:=World.block_lt_of_cell? w _ h0;refine⟨x.block,x.off,by rw[←hx],by simpa[Addr.add] using aX,fun j v bc=>⟨b2 v,rfl,rfl,fun i u hu=>?_⟩⟩;have aT:=(List.getElem?_eq_some_iff.1 bc).1;rw[List.length_take] at aT;have c:=hc j (by omega);rw[List.getElem?_take] at bc;split at bc
  ·have bD:b.getD j 0=v:=by rw[List.getD_eq_getElem?_getD,bc];rfl
   rw[bD] at c;have al:i=0∧u=.int .i64 v:=by
    cases i with
    | zero=>simp[b2] at hu;exact⟨rfl,hu.symm⟩
    | succ i=>simp[b2] at hu
   obtain⟨rfl,rfl⟩:=al;have aV:x.add j=⟨x.block,x.off+j*1+0,none⟩:=by
    rw[Nat.mul_one,Nat.add_zero];unfold Addr.add;split
    ·rename_i ci;rw[ci,Nat.add_zero,←hx]
    ·rfl
   rw[aV] at c;exact c
  ·cases bc
theorem dm:bX prog 22 3 (.int .i64 0) 1 8:=bX.mk' Tryz.underlying22 (by kernel_rfl) rfl (by omega)
inductive D where
 | i (n:Int)
 | b (x:Bool)
 | s (x:ByteArray)
 | st (l:List D)
 | sl (l:List D)
mutual
def D.rep(w:World)(P:Nat→Prop):D→List Value→Prop
 | .i n=>fun cs=>cs=[.int .i64 n]
 | .b x=>fun cs=>cs=[.bool x]
 | .s x=>fun cs=>cs=[.string x]
 | .st l=>fun cs=>D.aI w P l cs
 | .sl l=>fun cs=>∃A c,cs=[.slice A l.length c]∧l.length≤c∧(0<l.length→∃b o xs,A=some ⟨b,o,none⟩∧P b∧D.aI w P l xs∧∀j u,xs[j]?=some u→w.cell? ⟨b,o+j,none⟩=some u)
def D.aI(w:World)(P:Nat→Prop):List D→List Value→Prop
 | []=>fun cs=>cs=[]
 | d::l=>fun cs=>∃x y,cs=x++y∧D.rep w P d x∧D.aI w P l y
end
mutual
def D.sz:D→Nat
 | .i _=>1
 | .b _=>1
 | .s _=>1
 | .st l=>D.yr l
 | .sl _=>1
def D.yr:List D→Nat
 | []=>0
 | d::l=>D.sz d+D.yr l
end
mutual
theorem D.kY{w:World}{P:Nat→Prop}:∀(d:D) (cs:List Value),d.rep w P cs→cs.length=d.sz
 | .i n,cs,h=>by simp only[D.rep] at h;subst h;rfl
 | .b x,cs,h=>by simp only[D.rep] at h;subst h;rfl
 | .s x,cs,h=>by simp only[D.rep] at h;subst h;rfl
 | .st l,cs,h=>by simp only[D.rep] at h;simp only[D.sz];exact D.gU l cs h
 | .sl l,cs,h=>by simp only[D.rep] at h;obtain⟨A,c,rfl,_⟩:=h;rfl
theorem D.gU{w:World}{P:Nat→Prop}:∀(l:List D) (cs:List Value),D.aI w P l cs→cs.length=D.yr l
 | [],cs,h=>by simp only[D.aI] at h;subst h;rfl
 | d::l,cs,h=>by
  simp only[D.aI] at h;obtain⟨x,y,rfl,hx,a4⟩:=h;simp only[D.yr,List.length_append,D.kY d x hx,D.gU l y a4]
end
mutual
theorem D.aN{w ac:World}{P:Nat→Prop}(aj:∀b,P b→ac.heap[b]?=w.heap[b]?):∀(d:D) (cs:List Value),d.rep w P cs→d.rep ac P cs
 | .i n,cs,h=>by simpa only[D.rep] using h
 | .b x,cs,h=>by simpa only[D.rep] using h
 | .s x,cs,h=>by simpa only[D.rep] using h
 | .st l,cs,h=>by simp only[D.rep] at h ⊢;exact D.bJ aj l cs h
 | .sl l,cs,h=>by
  simp only[D.rep] at h ⊢;obtain⟨A,c,T,hc,hn⟩:=h;refine⟨A,c,T,hc,fun h0=>?_⟩;obtain⟨b,o,xs,bk,O,aU,bc⟩:=hn h0;exact⟨b,o,xs,bk,O,D.bJ aj l xs aU,fun j u hu=>(World.cell?_of_block (w:=w) (aj b O)).trans (bc j u hu)⟩
theorem D.bJ{w ac:World}{P:Nat→Prop}(aj:∀b,P b→ac.heap[b]?=w.heap[b]?):∀(l:List D) (cs:List Value),D.aI w P l cs→D.aI ac P l cs
 | [],cs,h=>by simpa only[D.aI] using h
 | d::l,cs,h=>by
  simp only[D.aI] at h ⊢;obtain⟨x,y,rfl,hx,a4⟩:=h;exact⟨x,y,rfl,D.aN aj d x hx,D.bJ aj l y a4⟩
end
mutual
theorem D.aF{w:World}{P bb:Nat→Prop}(hp:∀b,P b→bb b):∀(d:D) (cs:List Value),d.rep w P cs→d.rep w bb cs
 | .i n,cs,h=>by simpa only[D.rep] using h
 | .b x,cs,h=>by simpa only[D.rep] using h
 | .s x,cs,h=>by simpa only[D.rep] using h
 | .st l,cs,h=>by simp only[D.rep] at h ⊢;exact D.bK hp l cs h
 | .sl l,cs,h=>by
  simp only[D.rep] at h ⊢;obtain⟨A,c,T,hc,hn⟩:=h;refine⟨A,c,T,hc,fun h0=>?_⟩;obtain⟨b,o,xs,bk,O,aU,bc⟩:=hn h0;exact⟨b,o,xs,bk,hp b O,D.bK hp l xs aU,bc⟩
theorem D.bK{w:World}{P bb:Nat→Prop}(hp:∀b,P b→bb b):∀(l:List D) (cs:List Value),D.aI w P l cs→D.aI w bb l cs
 | [],cs,h=>by simpa only[D.aI] using h
 | d::l,cs,h=>by
  simp only[D.aI] at h ⊢;obtain⟨x,y,rfl,hx,a4⟩:=h;exact⟨x,y,rfl,D.aF hp d x hx,D.bK hp l y a4⟩
end
mutual
theorem D.sI{w:World}{P:Nat→Prop}:∀(d:D) (cs:List Value),d.rep w P cs→∀u∈cs,u.oneCell'=true
 | .i n,cs,h=>by simp only[D.rep] at h;subst h;simp[Value.oneCell']
 | .b x,cs,h=>by simp only[D.rep] at h;subst h;simp[Value.oneCell']
 | .s x,cs,h=>by simp only[D.rep] at h;subst h;simp[Value.oneCell']
 | .st l,cs,h=>by simp only[D.rep] at h;exact D.p5 l cs h
 | .sl l,cs,h=>by simp only[D.rep] at h;obtain⟨A,c,rfl,_⟩:=h;simp[Value.oneCell']
theorem D.p5{w:World}{P:Nat→Prop}:∀(l:List D) (cs:List Value),D.aI w P l cs→∀u∈cs,u.oneCell'=true
 | [],cs,h=>by simp only[D.aI] at h;subst h;simp
 | d::l,cs,h=>by
  simp only[D.aI] at h;obtain⟨x,y,rfl,hx,a4⟩:=h;intro u hu;rcases List.mem_append.1 hu with hu|hu
  ·exact D.sI d x hx u hu
  ·exact D.p5 l y a4 u hu
end
theorem D.cA{w:World}{P:Nat→Prop}:∀{l m:List D} {x y:List Value},D.aI w P l x→D.aI w P m y→D.aI w P (l++m) (x++y)
 | [],m,x,y,hx,a4=>by simp only[D.aI] at hx;subst hx;exact a4
 | d::l,m,x,y,hx,a4=>by
  simp only[D.aI,List.cons_append] at hx ⊢;obtain⟨a,c,rfl,aV,hc⟩:=hx;exact⟨a,c++y,by rw[List.append_assoc],aV,D.cA hc a4⟩
theorem D.jS{w:World}{P:Nat→Prop}:∀{l m:List D} {x:List Value},D.aI w P (l++m) x→∃y z,x=y++z∧D.aI w P l y∧D.aI w P m z
 | [],m,x,h=>⟨[],x,rfl,by simp only[D.aI],h⟩
 | d::l,m,x,h=>by
  simp only[D.aI,List.cons_append] at h;obtain⟨a,c,rfl,aV,hc⟩:=h;obtain⟨y,z,rfl,a4,bi⟩:=D.jS hc;exact⟨a++y,z,by rw[List.append_assoc],by simp only[D.aI];exact⟨a,y,rfl,aV,a4⟩,bi⟩
theorem D.bj{w:World}{P:Nat→Prop}{d:D}{x:List Value}:D.aI w P [d] x↔d.rep w P x:=by
 simp only[D.aI];constructor
 ·rintro⟨a,b,rfl,aV,rfl⟩;simpa using aV
 ·intro h;exact⟨x,[],by simp,h,rfl⟩
theorem D.gG{z:Nat}:∀{l:List D},(∀d∈l,d.sz=z)→D.yr l=l.length*z
 | [],_=>by simp[D.yr]
 | d::l,h=>by
  have ao:D.yr l=l.length*z:=D.gG (fun x hx=>h x (List.mem_cons_of_mem _ hx));simp only[D.yr,List.length_cons,Nat.succ_mul,h d (List.mem_cons_self),ao];omega
theorem D.oA{w:World}{P:Nat→Prop}{z:Nat}:∀{l:List D} {xs:List Value},D.aI w P l xs→(∀d∈l,d.sz=z)→∀{k:Nat} {d:D},l[k]?=some d→
  ∃cs,d.rep w P cs∧cs.length=z∧∀j u,cs[j]?=some u→xs[k*z+j]?=some u
 | [],xs,_,_,k,d,aj=>by simp at aj
 | e::l,xs,h,bi,0,d,aj=>by
  simp only[D.aI] at h;obtain⟨x,y,rfl,hx,_⟩:=h;simp only[List.getElem?_cons_zero,Option.some.injEq] at aj;subst aj;refine⟨x,hx,(D.kY _ _ hx).trans (bi e (by simp)),fun j u hu=>?_⟩;rw[Nat.zero_mul,Nat.zero_add,List.getElem?_append_left (List.getElem?_eq_some_iff.1 hu).1]
  exact hu
 | e::l,xs,h,bi,k+1,d,aj=>by
  simp only[D.aI] at h;obtain⟨x,y,rfl,hx,a4⟩:=h;simp only[List.getElem?_cons_succ] at aj;obtain⟨cs,aU,hl,bc⟩:=D.oA a4 (fun x hx=>bi x (by simp[hx])) aj;have aW:=(D.kY _ _ hx).trans (bi e (by simp));refine⟨cs,aU,hl,fun j u hu=>?_⟩;rw[List.getElem?_append_right (by rw[aW,Nat.succ_mul];omega),aW,show (k+1)*z+j - z=k*z+j by rw[Nat.succ_mul];omega];exact bc j u hu
def Sl(w:World)(P:Nat→Prop)(A:Kr)(n:Nat)(l:List D):Prop:=
 l.length=n∧(0<n→∃b o xs,A=some ⟨b,o,none⟩∧P b∧D.aI w P l xs∧∀j u,xs[j]?=some u→w.cell? ⟨b,o+j,none⟩=some u)
section
variable {w ac:World} {P bb:Nat→Prop} {A:Kr} {n z:Nat} {l:List D}
theorem D.sM{cs:List Value}:(D.sl l).rep w P cs↔∃A c n,cs=[.slice A n c]∧n≤c∧Sl w P A n l:=by
 simp only[D.rep,Sl];constructor
 ·rintro⟨A,c,rfl,hc,h⟩;exact⟨A,c,_,rfl,hc,rfl,h⟩
 ·rintro⟨A,c,n,rfl,hc,rfl,h⟩;exact⟨A,c,rfl,hc,h⟩
theorem Sl.bG(A:Kr):Sl w P A 0 []:=⟨rfl,fun h=>absurd h (by omega)⟩
theorem Sl.aj(h:Sl w P A n l)(aj:∀b,P b→ac.heap[b]?=w.heap[b]?):Sl ac P A n l:=by
 refine⟨h.1,fun hn=>?_⟩;obtain⟨b,o,xs,bk,O,aU,bc⟩:=h.2 hn;exact⟨b,o,xs,bk,O,D.bJ aj l xs aU,fun j u hu=>(World.cell?_of_block (w:=w) (aj b O)).trans (bc j u hu)⟩
theorem Sl.mono(h:Sl w P A n l)(hp:∀b,P b→bb b):Sl w bb A n l:=by
 refine⟨h.1,fun hn=>?_⟩;obtain⟨b,o,xs,bk,O,aU,bc⟩:=h.2 hn;exact⟨b,o,xs,bk,hp b O,D.bK hp l xs aU,bc⟩
theorem Sl.some_(h:Sl w P A n l)(hn:0<n):∃b o,A=some ⟨b,o,none⟩∧P b:=by
 obtain⟨b,o,xs,bk,O,_⟩:=h.2 hn;exact⟨b,o,bk,O⟩
theorem Sl.none_(h:Sl w P none n l):n=0:=by
 rcases Nat.eq_zero_or_pos n with h0|h0
 ·exact h0
 ·obtain⟨b,o,bk,_⟩:=h.some_ h0;cases bk
theorem Sl.at_(h:Sl w P A n l)(bi:∀d∈l,d.sz=z){k:Nat}(aj:k<n) :
  ∃b o d cs,A=some ⟨b,o,none⟩∧P b∧l[k]?=some d∧d.rep w P cs∧cs.length=z∧∀j u,cs[j]?=some u→w.cell? ⟨b,o+k*z+j,none⟩=some u:=by
 obtain⟨b,o,xs,bk,O,aU,bc⟩:=h.2 (by omega);have hm:l[k]?=some (l[k]'(by have:=h.1;omega)):=List.getElem?_eq_getElem _;obtain⟨cs,hd,hl,hc⟩:=D.oA aU bi hm;exact⟨b,o,_,cs,bk,O,hm,hd,hl,fun j u hu=>by rw[Nat.add_assoc];exact bc _ u (hc j u hu)⟩
theorem Sl.gN{α:Type}{enc:α→D}{l:List α}(h:Sl w P A n (l.map enc))(bi:∀x,(enc x).sz=z){k:Nat}(aj:k<n) :
  ∃b o x cs,A=some ⟨b,o,none⟩∧P b∧l[k]?=some x∧(enc x).rep w P cs∧cs.length=z∧∀j u,cs[j]?=some u→w.cell? ⟨b,o+k*z+j,none⟩=some u:=by
 obtain⟨b,o,d,cs,bk,O,hd,aU,hl,hc⟩:=h.at_ (z:=z) (fun d hd=>by obtain⟨x,_,rfl⟩:=List.mem_map.1 hd;exact bi x) aj;rw[List.getElem?_map] at hd
 cases hx:l[k]? with
 | none=>rw[hx] at hd;cases hd
 | some x=>
  rw[hx] at hd;injection hd with hd;subst hd;exact⟨b,o,x,cs,bk,O,rfl,aU,hl,hc⟩
theorem Sl.take(h:Sl w P A n l){m:Nat}(hm:m≤n):Sl w P A m (l.take m):=by
 refine⟨by have:=h.1;simp;omega,fun h0=>?_⟩;obtain⟨b,o,xs,bk,O,aU,bc⟩:=h.2 (by omega);rw[←List.take_append_drop m l] at aU;obtain⟨y,bm,rfl,a4,_⟩:=D.jS aU;exact⟨b,o,y,bk,O,a4,fun j u hu=>bc j u (by rw[List.getElem?_append_left (List.getElem?_eq_some_iff.1 hu).1];exact hu)⟩
theorem Sl.src(h:Sl w P A n l)(bi:∀d∈l,d.sz=z):∃xs,D.aI w P l xs∧Src w z A n xs:=by
 rcases Nat.eq_zero_or_pos n with hn|hn
 ·subst hn;have:l=[]:=List.eq_nil_of_length_eq_zero h.1;subst this;exact⟨[],by simp only[D.aI],by simp,by simp,fun h=>absurd h (by omega)⟩
 ·obtain⟨b,o,xs,bk,O,aU,bc⟩:=h.2 hn;exact⟨xs,aU,by rw[D.gU _ _ aU,D.gG bi,h.1],D.p5 l xs aU,fun _=>⟨b,o,bk,bc⟩⟩
theorem Sl.pP{base:Nat}{e:TypeId}{c:Nat}{xs:List Value}(h:w.ownsRow base e z (.slice A n c) n xs)(aU:D.aI w P l xs)(hl:l.length=n)(aY:∀g,A=some ⟨g,0,none⟩→base≤g→g<w.heap.size→P g):Sl w P A n l:=by
 refine⟨hl,fun hn=>?_⟩;obtain⟨g,bk,O,aJ,hc,_⟩:=hR h hn;exact⟨g,0,xs,bk,aY g bk O aJ,aU,fun j u hu=>by rw[Nat.zero_add];exact hc j u hu⟩
end
abbrev au(w:World):Nat→Prop:=fun b=>b<w.heap.size
theorem D.on{w ac:World}{d:D}{cs:List Value}(h:d.rep w (au w) cs)(O:Below w.heap.size w ac):d.rep ac (au ac) cs:=
 D.aF (fun _ aw=>Nat.lt_of_lt_of_le aw O.size) _ _ (D.aN (fun b aw=>O.block b aw) _ _ h)
theorem Sl.on{w ac:World}{A:Kr}{n:Nat}{l:List D}(h:Sl w (au w) A n l)(O:Below w.heap.size w ac):Sl ac (au ac) A n l:=
 (h.aj (fun b aw=>O.block b aw)).mono (fun _ aw=>Nat.lt_of_lt_of_le aw O.size)
structure Fr(M:Nat→Prop)(w ac:World):Prop where
 os:ac.os=w.os
 tape:ac.tape=w.tape
 output:ac.output=w.output
 size:w.heap.size≤ac.heap.size
 block:∀k,k<w.heap.size→¬M k→ac.heap[k]?=w.heap[k]?
abbrev Ext:World→World→Prop:=Fr fun _=>False
section
variable {M M':Nat→Prop} {a b c:World}
theorem Fr.refl(M:Nat→Prop)(w:World):Fr M w w:=⟨rfl,rfl,rfl,Nat.le_refl _,fun _ _ _=>rfl⟩
theorem Fr.trans(h:Fr M a b)(k:Fr M b c):Fr M a c:=
 ⟨k.os.trans h.os,k.tape.trans h.tape,k.output.trans h.output,Nat.le_trans h.size k.size,fun i al hn=>(k.block i (Nat.lt_of_lt_of_le al h.size) hn).trans (h.block i al hn)⟩
theorem Fr.mono(h:Fr M a b)(hM:∀k,M k→M' k):Fr M' a b:=⟨h.os,h.tape,h.output,h.size,fun k aj hn=>h.block k aj fun hm=>hn (hM k hm)⟩
theorem Fr.of(h:Below a.heap.size a b):Fr M a b:=⟨h.os,h.tape,h.output,h.size,fun k aj _=>h.block k aj⟩
theorem Fr.below{B:Nat}(h:Fr M a b)(aL:B≤a.heap.size)(hM:∀k,k<B→¬M k):Below B a b:=⟨h.os,h.tape,h.output,h.size,fun k aj=>h.block k (Nat.lt_of_lt_of_le aj aL) (hM k aj)⟩
theorem Fr.low(h:Fr M a b)(hM:∀k,M k→a.heap.size≤k):Ext a b:=⟨h.os,h.tape,h.output,h.size,fun k aj _=>h.block k aj fun hm=>by have:=hM k hm;omega⟩
theorem Fr.ext(h:Ext a b):Below a.heap.size a b:=h.below (Nat.le_refl _) fun _ _ h=>h
theorem Fr.drew(h:Fr M a b):Fr M a b.drew:=⟨h.os,h.tape,h.output,h.size,h.block⟩
theorem Fr.drewN(h:Fr M a b)(n:Nat):Fr M a (b.drewN n):=⟨h.os,h.tape,h.output,h.size,h.block⟩
theorem Fr.alloc(h:Fr M a b)(o:Obj):Fr M a (b.alloc o):=
 ⟨h.os,h.tape,h.output,by have:=h.size;simp;omega,fun k aj hn=>(Below.heap_alloc b o k (Nat.lt_of_lt_of_le aj h.size)).trans (h.block k aj hn)⟩
theorem Fr.setCell(h:Fr M a b){p:Addr}(hp:M p.block∨a.heap.size≤p.block)(v:Value):Fr M a (b.setCell p v):=by
 refine⟨h.os,h.tape,h.output,by simpa using h.size,fun k aj hn=>?_⟩;have:k≠p.block:=by
  rintro rfl;rcases hp with hp|hp
  ·exact hn hp
  ·omega
 rw[Below.heap_setCell _ _ _ _ this];exact h.block k aj hn
theorem Fr.eB(h:Fr M a b)(k:Below a.heap.size b c):Fr M a c:=
 ⟨k.os.trans h.os,k.tape.trans h.tape,k.output.trans h.output,Nat.le_trans h.size k.size,fun i al hn=>(k.block i al).trans (h.block i al hn)⟩
theorem Fr.grown{row:Option Nat}(h:Fr M a b)(aJ:b.grownBy c row)(aU:∀g,row=some g→M g∨a.heap.size≤g):Fr M a c:=by
 refine⟨aJ.os.trans h.os,aJ.tape.trans h.tape,aJ.output.trans h.output,Nat.le_trans h.size aJ.size,fun k aj hn=>?_⟩;refine(aJ.block k (Nat.lt_of_lt_of_le aj h.size) fun e=>?_).trans (h.block k aj hn);rcases aU k e.symm with ae|ae
 ·exact hn ae
 ·omega
theorem Fr.cell(h:Fr M a b){k j:Nat}(aj:k<a.heap.size)(hn:¬M k):b.cell? ⟨k,j,none⟩=a.cell? ⟨k,j,none⟩:=World.cell?_of_block (h.block k aj hn)
theorem Fr.frozen(h:Fr M a b){k j:Nat}(aj:k<a.heap.size)(hn:¬M k):b.frozen? ⟨k,j,none⟩=a.frozen? ⟨k,j,none⟩:=by
 simp only[World.frozen?,h.block k aj hn]
theorem Fr.two(h:Fr M a b):(∀k j,k<a.heap.size→¬M k→b.cell? ⟨k,j,none⟩=a.cell? ⟨k,j,none⟩)∧(∀k j,k<a.heap.size→¬M k→b.frozen? ⟨k,j,none⟩=a.frozen? ⟨k,j,none⟩):=
 ⟨fun _ _ aj hn=>h.cell aj hn,fun _ _ aj hn=>h.frozen aj hn⟩
theorem Fr.uu(h:Ext a b):(∀k j,k<a.heap.size→b.cell? ⟨k,j,none⟩=a.cell? ⟨k,j,none⟩)∧(∀k j,k<a.heap.size→b.frozen? ⟨k,j,none⟩=a.frozen? ⟨k,j,none⟩):=
 ⟨fun _ _ aj=>h.cell aj (fun h=>h),fun _ _ aj=>h.frozen aj (fun h=>h)⟩
theorem Fr.twod(h:Fr M a.drew b):(∀k j,k<a.heap.size→¬M k→b.cell? ⟨k,j,none⟩=a.cell? ⟨k,j,none⟩)∧(∀k j,k<a.heap.size→¬M k→b.frozen? ⟨k,j,none⟩=a.frozen? ⟨k,j,none⟩):=
 ⟨fun _ _ aj hn=>h.cell aj hn,fun _ _ aj hn=>h.frozen aj hn⟩
theorem Fr.FZ(h:Ext a.drew b):(∀k j,k<a.heap.size→b.cell? ⟨k,j,none⟩=a.cell? ⟨k,j,none⟩)∧(∀k j,k<a.heap.size→b.frozen? ⟨k,j,none⟩=a.frozen? ⟨k,j,none⟩):=
 ⟨fun _ _ aj=>h.cell aj (fun h=>h),fun _ _ aj=>h.frozen aj (fun h=>h)⟩
theorem Fr.jb(h:Ext a.drew.drew b):(∀k j,k<a.heap.size→b.cell? ⟨k,j,none⟩=a.cell? ⟨k,j,none⟩)∧(∀k j,k<a.heap.size→b.frozen? ⟨k,j,none⟩=a.frozen? ⟨k,j,none⟩):=
 ⟨fun _ _ aj=>h.cell aj (fun h=>h),fun _ _ aj=>h.frozen aj (fun h=>h)⟩
theorem Fr.HW(h:Fr M a.drew.drew b):(∀k j,k<a.heap.size→¬M k→b.cell? ⟨k,j,none⟩=a.cell? ⟨k,j,none⟩)∧(∀k j,k<a.heap.size→¬M k→b.frozen? ⟨k,j,none⟩=a.frozen? ⟨k,j,none⟩):=
 ⟨fun _ _ aj hn=>h.cell aj hn,fun _ _ aj hn=>h.frozen aj hn⟩
theorem Fr.aO(h:Fr M a.drew b):Fr M a b:=⟨h.os,h.tape,h.output,h.size,h.block⟩
end
abbrev off(M:Nat→Prop)(w:World):Nat→Prop:=fun b=>b<w.heap.size∧¬M b
section
variable {M:Nat→Prop} {w ac:World}
theorem tI(h:Fr M w ac):∀b,off M w b→off M ac b:=fun _ O=>⟨Nat.lt_of_lt_of_le O.1 h.size,O.2⟩
theorem D.cO{d:D}{cs:List Value}(h:d.rep w (off M w) cs)(O:Fr M w ac):d.rep ac (off M ac) cs:=
 D.aF (tI O) _ _ (D.aN (fun b aw=>O.block b aw.1 aw.2) _ _ h)
theorem Sl.cO{A:Kr}{n:Nat}{l:List D}(h:Sl w (off M w) A n l)(O:Fr M w ac):Sl ac (off M ac) A n l:=
 (h.aj (fun b aw=>O.block b aw.1 aw.2)).mono (tI O)
end
def af(w:World)(g:Nat)(t:TypeId)(cs:Array Value):Prop:=w.heap[g]?=some (.cells cs t (0,0))
section
variable {w ac:World} {g:Nat} {t:TypeId} {cs:Array Value} {M:Nat→Prop}
theorem af.lt(h:af w g t cs):g<w.heap.size:=by
 rcases Nat.lt_or_ge g w.heap.size with aw|ah
 ·exact aw
 ·unfold af at h;rw[Array.getElem?_eq_none ah] at h;cases h
theorem af.cell(h:af w g t cs)(i:Nat):w.cell? ⟨g,i,none⟩=cs[i]?:=cell_of_row w g i cs t (0,0) h
theorem af.frozen(h:af w g t cs)(i:Nat):w.frozen? ⟨g,i,none⟩=false:=by
 unfold af at h;simp[World.frozen?,h]
theorem af.two(h:af w g t cs):(∀i,w.cell? ⟨g,i,none⟩=cs[i]?)∧(∀i,w.frozen? ⟨g,i,none⟩=false)∧g<w.heap.size:=⟨h.cell,h.frozen,h.lt⟩
theorem af.new(w:World)(t:TypeId)(cs:Array Value):af (w.alloc (.cells cs t)) w.heap.size t cs:=heap_alloc_new w _
theorem af.ct(w:World)(t:TypeId)(cs:Array Value)(aJ:g=w.heap.size):af (w.alloc (.cells cs t)) g t cs:=by
 subst aJ;exact heap_alloc_new w _
theorem af.drew(h:af w g t cs):af w.drew g t cs:=h
theorem af.alloc(h:af w g t cs)(o:Obj):af (w.alloc o) g t cs:=(Below.heap_alloc w o g h.lt).trans h
theorem af.aC(h:af w g t cs)(i:Nat)(u:Value):af (w.setCell ⟨g,i,none⟩ u) g t (cs.setIfInBounds i u):=by
 unfold af at h ⊢;simp[World.setCell,Array.getElem?_modify,h]
theorem af.IP(h:af w g t cs){p:Addr}(hp:g≠p.block)(u:Value):af (w.setCell p u) g t cs:=(Below.heap_setCell w p u g hp).trans h
theorem af.below{B:Nat}(h:af w g t cs)(O:Below B w ac)(aJ:g<B):af ac g t cs:=(O.block g aJ).trans h
theorem af.on(h:af w g t cs)(O:Fr M w ac)(aJ:¬M g):af ac g t cs:=(O.block g h.lt aJ).trans h
theorem af.ak(h:af w g t cs)(O:Ext w ac):af ac g t cs:=(O.block g h.lt fun h=>h).trans h
theorem af.grown{row:Option Nat}(h:af w g t cs)(O:w.grownBy ac row)(aJ:some g≠row):af ac g t cs:=(O.block g h.lt aJ).trans h
end
theorem PU:(∀(t:Array Value) (d:List Deferred) (i:Nat) (v:Value),Act.put ⟨t,d⟩ (some i) v=⟨t.setIfInBounds i v,d⟩)∧(∀(l:List Value) (i:Nat) (v:Value),l.toArray.setIfInBounds i v=(l.set i v).toArray)∧(∀(x v:Value) (l:List Value),(x::l).set 0 v=v::l)∧(∀(x v:Value) (l:List Value) (i:Nat),(x::l).set (i+1) v=x::l.set i v)∧
  (∀(l:List Oper) (i:Nat) (h:i<l.toArray.size),l.toArray[i]'h=l[i]'(by simpa using h))∧(∀(x:Oper) (l:List Oper) (h:0<(x::l).length),(x::l)[0]'h=x)∧(∀(x:Oper) (l:List Oper) (i:Nat) (h:i+1<(x::l).length),(x::l)[i+1]'h=l[i]'(by simpa using h)):=
 ⟨fun _ _ _ _=>rfl,fun _ _ _=>by simp,fun _ _ _=>rfl,fun _ _ _ _=>rfl,fun _ _ _=>by simp,fun _ _ _=>rfl,fun _ _ _ _=>rfl⟩
section
variable {P:Program} {ops:Array Oper} {Q:Exit→Act→World→Prop} {R:World→World→Prop} {M:Nat→Prop} {tails:List Nat} {i:Nat} {o:Oper} {v:Value} {a r:Act} {w:World}
theorem pf{rest:List (Nat×Nat)}(h:bT P ops Q R rest r w)(al:ops[i]?=some o:=by rfl)(hw:Region.wanted o (yielded ops a.tmps)=true:=by rfl)(bD:∀V,(execOp a.eval o).run P V=.ok (.value v) V:=by intro V;(go_simp<;>with_reducible rfl))(aV:a.put o.dst v=r:=by (simp only[PU];rfl)) :
  bT P ops Q R ((i,3)::rest) a w:=bf al hw bD (aV▸h)
theorem tf{rest:PT}(h:c5 P ops Q R tails rest r w)(al:ops[i]?=some o:=by rfl)(hw:Region.wanted o (yielded ops a.tmps)=true:=by rfl)(bD:∀V,(execOp a.eval o).run P V=.ok (.value v) V:=by intro V;(go_simp<;>with_reducible rfl))(aV:a.put o.dst v=r:=by (simp only[PU];rfl)) :
  c5 P ops Q R tails (.free i rest) a w:=k2 al hw bD (aV▸h)
theorem ph{rest:List (Nat×Nat)}(h:bT P ops Q R rest r w)(al:ops[i]?=some o:=by rfl)(hw:Region.wanted o (yielded ops a.tmps)=true:=by rfl)(bD:∀V,R w V→(execOp a.eval o).run P V=.ok (.value v) V:=by intro V hV;obtain⟨hVc,hVf⟩:=Fr.FZ hV;(go_simp<;>with_reducible rfl))(aV:a.put o.dst v=r:=by (simp only[PU];rfl)) :
  bT P ops Q R ((i,0)::rest) a w:=bI al hw bD (aV▸h)
theorem th{rest:PT}(h:c5 P ops Q R tails rest r w)(al:ops[i]?=some o:=by rfl)(hw:Region.wanted o (yielded ops a.tmps)=true:=by rfl)(bD:∀V,R w V→(execOp a.eval o).run P V=.ok (.value v) V:=by intro V hV;obtain⟨hVc,hVf⟩:=Fr.FZ hV;(go_simp<;>with_reducible rfl))(aV:a.put o.dst v=r:=by (simp only[PU];rfl)) :
  c5 P ops Q R tails (.held i rest) a w:=cf al hw bD (aV▸h)
theorem pV{rest:List (Nat×Nat)}(h:bT P ops Q R rest r w)(al:ops[i]?=some o:=by rfl)(hw:Region.wanted o (yielded ops a.tmps)=true:=by rfl)(bD:∀V,R w V→(execOp a.eval o).run P V=.ok (.value v) V:=by intro V hV;obtain⟨hVc,hVf⟩:=Fr.twod hV;(go_simp<;>with_reducible rfl))(aV:a.put o.dst v=r:=by (simp only[PU];rfl)) :
  bT P ops Q R ((i,0)::rest) a w:=bI al hw bD (aV▸h)
theorem n8{rest:PT}(h:c5 P ops Q R tails rest r w)(al:ops[i]?=some o:=by rfl)(hw:Region.wanted o (yielded ops a.tmps)=true:=by rfl)(bD:∀V,R w V→(execOp a.eval o).run P V=.ok (.value v) V:=by intro V hV;obtain⟨hVc,hVf⟩:=Fr.twod hV;(go_simp<;>with_reducible rfl))(aV:a.put o.dst v=r:=by (simp only[PU];rfl)) :
  c5 P ops Q R tails (.held i rest) a w:=cf al hw bD (aV▸h)
theorem Jm{rest:List (Nat×Nat)}(h:bT P ops Q R rest r w)(al:ops[i]?=some o:=by rfl)(hw:Region.wanted o (yielded ops a.tmps)=true:=by rfl)(bD:∀V,R w V→(execOp a.eval o).run P V=.ok (.value v) V:=by intro V hV;obtain⟨hVc,hVf⟩:=Fr.two hV;(go_simp<;>with_reducible rfl))(aV:a.put o.dst v=r:=by (simp only[PU];rfl)) :
  bT P ops Q R ((i,0)::rest) a w:=bI al hw bD (aV▸h)
theorem IY{rest:PT}(h:c5 P ops Q R tails rest r w)(al:ops[i]?=some o:=by rfl)(hw:Region.wanted o (yielded ops a.tmps)=true:=by rfl)(bD:∀V,R w V→(execOp a.eval o).run P V=.ok (.value v) V:=by intro V hV;obtain⟨hVc,hVf⟩:=Fr.two hV;(go_simp<;>with_reducible rfl))(aV:a.put o.dst v=r:=by (simp only[PU];rfl)) :
  c5 P ops Q R tails (.held i rest) a w:=cf al hw bD (aV▸h)
theorem Ev{rest:List (Nat×Nat)}(h:bT P ops Q R rest r w)(al:ops[i]?=some o:=by rfl)(hw:Region.wanted o (yielded ops a.tmps)=true:=by rfl)(bD:∀V,R w V→(execOp a.eval o).run P V=.ok (.value v) V:=by intro V hV;obtain⟨hVc,hVf⟩:=Fr.HW hV;(go_simp<;>with_reducible rfl))(aV:a.put o.dst v=r:=by (simp only[PU];rfl)) :
  bT P ops Q R ((i,0)::rest) a w:=bI al hw bD (aV▸h)
theorem ru{ac:World}{rest:List (Nat×Nat)}{M:Nat→Prop}(h:bT P ops Q (Fr M) rest r ac)(al:ops[i]?=some o:=by rfl)(hx:∀K:Act→World→Prop,K r ac→if Region.wanted o (yielded ops a.tmps)=true then o.wp P a w K Q else K (a.put o.dst undef) w:=by (intro K hK;go_simp;(try simp only[PU] at hK ⊢);exact hK))(b8:Fr M w ac:=by exact(Fr.refl _ _).alloc _) :
  bT P ops Q (Fr M) ((i,1)::rest) a w:=aK al fun K hK=>hx K (hK _ _ b8 h)
theorem eZ{ac:World}{p:PT}{M:Nat→Prop}(h:c5 P ops Q (Fr M) tails p r ac)(al:ops[i]?=some o:=by rfl)(hx:∀K:Act→World→Prop,K r ac→if Region.wanted o (yielded ops a.tmps)=true then o.wp P a w K Q else K (a.put o.dst undef) w:=by (intro K hK;go_simp;(try simp only[PU] at hK ⊢);exact hK))(b8:Fr M w ac:=by exact(Fr.refl _ _).alloc _)(hT:tails.contains i=false:=by rfl) :
  rI P ops Q (Fr M) tails i p a w:=aE al (fun K hK=>hx K (hK _ _ b8 h)) hT
end
section
variable {P:Program} {ops:Array Oper} {Q:Exit→Act→World→Prop} {M:Nat→Prop} {id:Nat} {a:Act} {w:World}
theorem eE(M:Nat→Prop)(e:List (Nat×Nat))(h:bT P ops Q (Fr M) e a w.drew)(ae:P.follows .mixedOrders=true:=by kernel_rfl)(aC:vL .any ops e=true:=by kernel_rfl)(bm:∀c a d v w,Q (.panic c) (a.put d v) w→Q (.panic c) a w:=by (intro _ _ d _ _ h;first|(cases d<;>exact h)|exact hQ0 _ _ _ _ _ h)):(Code.region id ops true).wp P Q a w:=
 kF (Fr M) e ae aC (Fr.refl _) (fun _ _ _ h k=>h.trans k) bm h
theorem tX(M:Nat→Prop)(tails:List Nat)(p:PT)(h:c5 P ops Q (Fr M) tails p a w.drew)(ae:P.follows .mixedOrders=true:=by kernel_rfl)(aC:wi .any ops tails p=true:=by kernel_rfl)(bm:∀c a d v w,Q (.panic c) (a.put d v) w→Q (.panic c) a w:=by (intro _ _ d _ _ h;first|(cases d<;>exact h)|exact hQ0 _ _ _ _ _ h)):(Code.region id ops true).wp P Q a w:=
 qo (Fr M) tails p ae aC (Fr.refl _) (fun _ _ _ h k=>h.trans k) bm h
end
theorem dW{K:Act→World→Prop}{c:World→Prop}{b:Act→World→Prop}{a r:Act}{ac:World}(hK:∀r ac,c ac→b r ac→K r ac)(b8:c ac)(h:b r ac)(e:a=r:=by ((try simp only[PU]);rfl)):K a ac:=hK _ _ b8 (e▸h)
theorem eD{K:Act→World→Prop}{b:Act→World→Prop}{a r:Act}{ac:World}(hK:∀r ac,b r ac→K r ac)(h:b r ac)(e:a=r:=by ((try simp only[PU]);rfl)):K a ac:=hK _ _ (e▸h)
end Go.Proofs.YtbkhhfajcgkpgaaGreat
