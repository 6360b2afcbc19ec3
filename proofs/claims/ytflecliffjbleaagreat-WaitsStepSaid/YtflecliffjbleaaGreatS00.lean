/- Part 0 of the proof. No condition of its own. -/
import Derived.Deep.Draws
import Derived.Maps.AppendAt
import Derived.OrdersHeld
import Derived.StillTail
import Derived.Test.YtflecliffjbleaaGreatRows
import Derived.WalkKit
import Derived.WalkLawsBesides
import Derived.WalkSpells
namespace Go.Proofs.YtflecliffjbleaaGreat
open Go.RowKit Go.Proofs.Tryz
set_option maxRecDepth 1000000
set_option maxHeartbeats 25600000
set_option linter.unusedVariables false
abbrev Mk:=Option Addr
abbrev Ml:=List ByteArray
def Mm(p:Prop):Prop:=p
theorem Mm.o{p:Prop}(h:Mm p):p:=h
section
variable {P:Program} {ops:Array Oper} {Q:Exit→Act→World→Prop} {md:Region.Mode} {R:World→World→Prop} {T:Nat→Bool}
def km(P:Program)(md:Region.Mode)(ops:Array Oper)(Q:Exit→Act→World→Prop)(R:World→World→Prop)(T:Nat→Bool):Nat→Array Bool→Act→World→Prop
 | 0,listed,a,w=>Region.ready md ops listed=[]∧Q .normal a w
 | fuel+1,listed,a,w=>
  (Region.ready md ops listed=[]→Q .normal a w)∧
  ∀i∈Region.ready md ops listed,wpOp P ops Q i (fun r ab=>(T i=true→R w ab)∧km P md ops Q R T fuel (listed.setIfInBounds i true) r ab) a w
theorem mF:∀(fuel:Nat) (listed:Array Bool) (a:Act) (w:World),km P md ops Q R T fuel listed a w→wpAny P md ops Q fuel listed a w
 | 0,_,_,_,h=>h
 | fuel+1,_,_,_,h=>⟨h.1,fun i al=>wpOp_mono (fun r ab q=>mF fuel _ r ab q.2) (h.2 i al)⟩
def jY(md:Region.Mode)(ops:Array Oper)(listed:Array Bool):Prop:=
 ∀j n,ops[j]?=some n→listed.getD j false=true→∀e∈n.after,Region.binds md e=true→listed.getD e.on false=true
theorem jY.set{i:Nat}{listed:Array Bool}(inv:jY md ops listed)(al:i∈Region.ready md ops listed):jY md ops (listed.setIfInBounds i true):=by
 obtain⟨_,s,cy,y⟩:=mem_ready.1 al;intro j n bi hl e he O;by_cases v:i=j
 ·subst v;have:n=s:=Option.some.inj (bi.symm.trans cy);subst this;exact getD_set_true (y e he O)
 ·rw[getD_set_ne false v] at hl;exact getD_set_true (inv j n bi hl e he O)
def DO(md:Region.Mode)(ops:Array Oper):Nat→Nat→Nat→Bool
 | 0,_,_=>false
 | f+1,j,i=>match ops[j]? with
  | none=>false
  | some n=>n.after.any fun e=>Region.binds md e && (e.on == i || DO md ops f e.on i)
theorem DP{i:Nat}{listed:Array Bool}(inv:jY md ops listed):∀(f j:Nat),DO md ops f j i=true→
  (∃n,ops[j]?=some n∧∀e∈n.after,Region.binds md e=true→listed.getD e.on false=true)→listed.getD i false=true:=by
 intro f
 induction f with
 | zero=>intro j h;simp[DO] at h
 | succ f aq=>
  intro j h bi;obtain⟨n,bn,y⟩:=bi;simp only[DO,bn] at h;obtain⟨e,he,O⟩:=Array.any_eq_true'.1 h;simp only[Bool.and_eq_true,Bool.or_eq_true,beq_iff_eq] at O;have hl:=y e he O.1;rcases O.2 with ax|ax
  ·rw[←ax];exact hl
  ·refine aq e.on ax ?_
   cases aj:ops[e.on]? with
   | none=>cases f<;>simp[DO,aj] at ax
   | some ok=>exact⟨ok,rfl,fun l a a4=>inv e.on ok aj hl l a a4⟩
theorem ik{i:Nat}{s:Oper}{v:Value}{U:World→World→Prop}(t:∀a b c,R a b→U b c→U a c)(l:∀a,R a a)(D:∀a,U a a)(al:ops[i]?=some s)(g:∀(j:Nat) (o:Oper) cs b,ops[j]?=some o→o.op≠.select cs b)
  (hQ:∀c a w,Q (.panic c) (a.put s.dst v) w→Q (.panic c) a w) (hT:(∀a b,U a b)∨∀j,T j=false→∃f,DO md ops f j i=true) :
  ∀(fuel:Nat) (listed:Array Bool) (a:Act) (w:World),jY md ops listed→
   (∀j n,ops[j]?=some n→j≠i→listed.getD j true=false→(∀e∈n.after,Region.binds md e=true→e.on≠i)→s.apart ops n=true)→
   i∈Region.ready md ops listed→YieldsIf P ops (U w) s v a→
   km P md ops Q R T fuel (listed.setIfInBounds i true) (a.put s.dst v) w→km P md ops Q R T (fuel+1) listed a w:=by
 intro fuel
 induction fuel with
 | zero=>
  intro listed a w _ _ a9 bb H;refine⟨fun h=>(by rw[h] at a9;cases a9),fun j bi=>?_⟩;by_cases m:j=i
  ·subst m;exact bb.wpOp al (D w) ⟨fun _=>l w,H⟩
  ·have:=ready_mono bi m;rw[H.1] at this
   cases this
 | succ fuel aq=>
  intro listed a w inv Z a9 bb H;refine⟨fun h=>(by rw[h] at a9;cases a9),fun j bi=>?_⟩;by_cases m:j=i
  ·subst m;exact bb.wpOp al (D w) ⟨fun _=>l w,H⟩
  ·have ac:=H.2 j (ready_mono bi m);obtain⟨B,n,A,y⟩:=mem_ready.1 bi;have p:=(mem_ready.1 a9).1;have C:∀e∈n.after,Region.binds md e=true→e.on≠i:=fun e he O heq=>by
    have ac:=y e he O;have h0:=p;rw[heq] at ac;rcases Nat.lt_or_ge i listed.size with q|q
    ·simp[q] at h0 ac;rw[h0] at ac;cases ac
    ·simp[Array.getElem?_eq_none q] at ac
   have u:(∀a b,U a b)∨T j=true:=by
    rcases hT with hT|hT
    ·exact .inl hT
    refine .inr ?_
    cases u:T j with
    | true=>rfl
    | false=>
     obtain⟨f,J⟩:=hT j u;have:=DP inv f j J ⟨n,A,y⟩;rcases Nat.lt_or_ge i listed.size with q|q
     ·simp[q] at p this;rw[p] at this;cases this
     ·simp[Array.getElem?_eq_none q] at this
   have ax:=wpOp_putIf (S:=U w) A (Z j n A m B C) (fun cs b=>g i s cs b al) (fun cs b=>g j n cs b A) hQ bb ac;have x:∀k ok,ops[k]?=some ok→k≠i→(listed.setIfInBounds j true).getD k true=false→
     (∀e∈ok.after,Region.binds md e=true→e.on≠i)→s.apart ops ok=true:=fun k ok aj F E bg=>by
    refine Z k ok aj F ?_ bg;by_cases z:j=k
    ·subst z;exact B
    ·rw[getD_set_ne true z] at E;exact E
   refine wpOp_mono (fun r ab a1=>?_) ax;have d:YieldsIf P ops (U ab) s v r:=a1.1.imp (fun⟨hw,bG⟩=>⟨hw,fun V hV=>bG V (u.elim (fun h=>h _ _) fun h=>t _ _ _ (a1.2.1 h) hV)⟩) id;refine⟨a1.2.1,aq (listed.setIfInBounds j true) r ab (inv.set bi) x (ready_mono a9 (Ne.symm m)) d ?_⟩;rw[Array.setIfInBounds_comm _ _ m];exact a1.2.2
def b2(P:Program)(ops:Array Oper)(Q:Exit→Act→World→Prop)(R:World→World→Prop):List (Nat×Nat)→Act→World→Prop
 | [],a,w=>Q .normal a w
 | (i,0)::rest,a,w=>∃o v,ops[i]?=some o∧YieldsIf P ops (R w) o v a∧b2 P ops Q R rest (a.put o.dst v) w
 | (i,3)::rest,a,w=>∃o v,ops[i]?=some o∧YieldsIf P ops (fun _=>True) o v a∧b2 P ops Q R rest (a.put o.dst v) w
 | (i,k+1)::rest,a,w=>∃o,ops[i]?=some o∧∀K:Act→World→Prop,(∀r ab,(k=0→R w ab)→b2 P ops Q R rest r ab→K r ab)→
   (if Region.wanted o (yielded ops a.tmps)=true then o.wp P a w K Q else K (a.put o.dst undef) w)
def lU(md:Region.Mode)(ops:Array Oper):List (Nat×Nat)→Array Bool→Bool
 | [],listed=>(Region.ready md ops listed).isEmpty
 | (i,0)::rest,listed=>Region.free md ops listed i && (Region.ready md ops listed).contains i && lU md ops rest (listed.setIfInBounds i true)
 | (i,3)::rest,listed=>Region.free md ops listed i && (Region.ready md ops listed).contains i && lU md ops rest (listed.setIfInBounds i true)
 | (i,_+1)::rest,listed=>(Region.ready md ops listed == [i]) && lU md ops rest (listed.setIfInBounds i true)
def nh(e:List (Nat×Nat)):List Nat:=(e.filter fun p=>decide (2=p.2)).map (·.1)
def wX(md:Region.Mode)(ops:Array Oper)(e:List (Nat×Nat)):Bool:=
 Region.noSelect ops && (e.length == ops.size) && (e.all fun p=>decide (p.2≤3)) && (e.all fun p=>decide (p.2=1∨p.2=2∨p.2=3) || (nh e).all fun j=>DO md ops ops.size j p.1) && lU md ops e (Array.replicate ops.size false)
theorem iT(t:∀a b c,R a b→R b c→R a c)(l:∀a,R a a)(g:∀(j:Nat) (o:Oper) cs b,ops[j]?=some o→o.op≠.select cs b)
  (hQ:∀c a d v w,Q (.panic c) (a.put d v) w→Q (.panic c) a w) :
  ∀(e:List (Nat×Nat)) (listed:Array Bool) (a:Act) (w:World),jY md ops listed→lU md ops e listed=true→
   (∀p∈e,p.2=0→∀j,T j=false→∃f,DO md ops f j p.1=true)→(∀p∈e,2=p.2→T p.1=false)→(∀p∈e,p.2≤3)→
   b2 P ops Q R e a w→km P md ops Q R T e.length listed a w
 | [],listed,a,w,_,aS,_,_,_,h=>⟨by simpa[lU] using aS,h⟩
 | (i,0)::rest,listed,a,w,inv,aS,h0,ax,a1,h=>by
  obtain⟨o,v,al,bb,h⟩:=h;simp only[lU,Bool.and_eq_true] at aS;have a9:i∈Region.ready md ops listed:=by simpa using aS.1.2
  exact ik (U:=R) t l l al g (fun c a w=>hQ c a _ _ w) (.inr (h0 (i,0) (by simp) rfl)) rest.length listed a w inv (Region.free_spec al aS.1.1) a9 bb
   (iT t l g hQ rest _ _ _ (inv.set a9) aS.2 (fun p hp=>h0 p (by simp[hp])) (fun p hp=>ax p (by simp[hp])) (fun p hp=>a1 p (by simp[hp])) h)
 | (i,3)::rest,listed,a,w,inv,aS,h0,ax,a1,h=>by
  obtain⟨o,v,al,bb,h⟩:=h;simp only[lU,Bool.and_eq_true] at aS;have a9:i∈Region.ready md ops listed:=by simpa using aS.1.2
  exact ik (U:=fun _ _=>True) (fun _ _ _ _ _=>trivial) l (fun _=>trivial) al g (fun c a w=>hQ c a _ _ w) (.inl fun _ _=>trivial) rest.length listed a w inv (Region.free_spec al aS.1.1) a9 bb
   (iT t l g hQ rest _ _ _ (inv.set a9) aS.2 (fun p hp=>h0 p (by simp[hp])) (fun p hp=>ax p (by simp[hp])) (fun p hp=>a1 p (by simp[hp])) h)
 | (i,1)::rest,listed,a,w,inv,aS,h0,ax,a1,h=>by
  obtain⟨o,al,h⟩:=h;simp only[lU,Bool.and_eq_true,beq_iff_eq] at aS;have a9:i∈Region.ready md ops listed:=by rw[aS.1];simp
  refine⟨fun h0=>(by rw[h0] at a9;cases a9),fun j bi=>?_⟩;rw[aS.1] at bi;have m:j=i:=by simpa using bi
  subst m;have s:=h (fun r ab=>(T j=true→R w ab)∧km P md ops Q R T rest.length (listed.setIfInBounds j true) r ab) fun r ab cB hp=>
   ⟨fun hT=>cB rfl,iT t l g hQ rest _ _ _ (inv.set a9) aS.2 (fun p hp=>h0 p (by simp[hp])) (fun p hp=>ax p (by simp[hp])) (fun p hp=>a1 p (by simp[hp])) hp⟩
  unfold Go.wpOp;simp only[al];split
  ·rename_i hw;rw[if_pos hw] at s;exact .inl s
  ·rename_i hw;rw[if_neg hw] at s
   exact s
 | (i,2)::rest,listed,a,w,inv,aS,h0,ax,a1,h=>by
  obtain⟨o,al,h⟩:=h;simp only[lU,Bool.and_eq_true,beq_iff_eq] at aS;have a9:i∈Region.ready md ops listed:=by rw[aS.1];simp
  refine⟨fun h0=>(by rw[h0] at a9;cases a9),fun j bi=>?_⟩;rw[aS.1] at bi;have m:j=i:=by simpa using bi
  subst m;have u:T j=false:=ax (j,2) (by simp) rfl;have s:=h (fun r ab=>(T j=true→R w ab)∧km P md ops Q R T rest.length (listed.setIfInBounds j true) r ab) fun r ab _ hp=>
   ⟨fun hT=>(by rw[u] at hT;cases hT),iT t l g hQ rest _ _ _ (inv.set a9) aS.2 (fun p hp=>h0 p (by simp[hp])) (fun p hp=>ax p (by simp[hp])) (fun p hp=>a1 p (by simp[hp])) hp⟩
  unfold Go.wpOp;simp only[al];split
  ·rename_i hw;rw[if_pos hw] at s;exact .inl s
  ·rename_i hw;rw[if_neg hw] at s
   exact s
 | (i,k+4)::rest,listed,a,w,inv,aS,h0,ax,a1,h=>absurd (a1 (i,k+4) (by simp)) (by simp)
theorem k7(R:World→World→Prop)(e:List (Nat×Nat)){id:Nat}{a:Act}{w:World}(hm:P.follows .mixedOrders=true)(aS:wX .any ops e=true)
  (l:∀a,R a a) (t:∀a b c,R a b→R b c→R a c) (hQ:∀c a d v w,Q (.panic c) (a.put d v) w→Q (.panic c) a w)
  (h:b2 P ops Q R e a w.drew):(Code.region id ops true).wp P Q a w:=by
 simp only[wX,Bool.and_eq_true,beq_iff_eq] at aS;obtain⟨⟨⟨⟨hs,hl⟩,a1⟩,ht⟩,hp⟩:=aS;refine wp_region_any hm (mF (R:=R) (T:=fun j=>!(nh e).contains j) _ _ _ _ ?_);rw[←hl];refine iT t l (Region.noSelect_spec hs) hQ e _ a _ (fun j n _ bi=>?_) (by rw[hl];exact hp) (fun p c0 i j bi=>?_) (fun p c0 f=>?_) (fun p c0=>?_) h
 ·rw[getD_replicate_false] at bi;cases bi
 ·have ac:=List.all_eq_true.1 ht p c0;rw[i] at ac;have g:j∈nh e:=by simpa using bi
  have ax:((nh e).all fun j=>DO .any ops ops.size j p.1)=true:=by simpa using ac
  exact⟨_,List.all_eq_true.1 ax j g⟩
 ·have:p.1∈nh e:=List.mem_map.2 ⟨p,List.mem_filter.2 ⟨c0,by simpa using f⟩,rfl⟩;simpa using this
 ·exact List.all_eq_true.1 a1 p c0 |> of_decide_eq_true
theorem bO{i:Nat}{o:Oper}{v:Value}{rest:List (Nat×Nat)}{a:Act}{w:World}(al:ops[i]?=some o)(hw:Region.wanted o (yielded ops a.tmps)=true)
  (bG:∀V,R w V→(execOp a.eval o).run P V=.ok (.value v) V) (h:b2 P ops Q R rest (a.put o.dst v) w):b2 P ops Q R ((i,0)::rest) a w:=
 ⟨o,v,al,.inl ⟨hw,bG⟩,h⟩
theorem iw{i:Nat}{o:Oper}{rest:List (Nat×Nat)}{a:Act}{w:World}(al:ops[i]?=some o)(hw:Region.wanted o (yielded ops a.tmps)=false)
  (h:b2 P ops Q R rest (a.put o.dst undef) w):b2 P ops Q R ((i,0)::rest) a w:=
 ⟨o,undef,al,.inr ⟨hw,rfl⟩,h⟩
theorem bp{i:Nat}{o:Oper}{v:Value}{rest:List (Nat×Nat)}{a:Act}{w:World}(al:ops[i]?=some o)(hw:Region.wanted o (yielded ops a.tmps)=true)
  (bG:∀V,(execOp a.eval o).run P V=.ok (.value v) V) (h:b2 P ops Q R rest (a.put o.dst v) w):b2 P ops Q R ((i,3)::rest) a w:=
 ⟨o,v,al,.inl ⟨hw,fun V _=>bG V⟩,h⟩
theorem dv{i:Nat}{o:Oper}{rest:List (Nat×Nat)}{a:Act}{w:World}(al:ops[i]?=some o)(hw:Region.wanted o (yielded ops a.tmps)=false)
  (h:b2 P ops Q R rest (a.put o.dst undef) w):b2 P ops Q R ((i,3)::rest) a w:=
 ⟨o,undef,al,.inr ⟨hw,rfl⟩,h⟩
theorem aI{i:Nat}{o:Oper}{rest:List (Nat×Nat)}{a:Act}{w:World}(al:ops[i]?=some o)
  (h:∀K:Act→World→Prop,(∀r ab,R w ab→b2 P ops Q R rest r ab→K r ab)→if Region.wanted o (yielded ops a.tmps)=true then o.wp P a w K Q else K (a.put o.dst undef) w) :
  b2 P ops Q R ((i,1)::rest) a w:=
 ⟨o,al,fun K hK=>h K fun r ab cB hp=>hK r ab (fun _=>cB) hp⟩
theorem au{i:Nat}{o:Oper}{rest:List (Nat×Nat)}{a:Act}{w:World}(al:ops[i]?=some o)
  (h:∀K:Act→World→Prop,(∀r ab,b2 P ops Q R rest r ab→K r ab)→if Region.wanted o (yielded ops a.tmps)=true then o.wp P a w K Q else K (a.put o.dst undef) w) :
  b2 P ops Q R ((i,2)::rest) a w:=
 ⟨o,al,fun K hK=>h K fun r ab hp=>hK r ab (fun h=>absurd h (by decide)) hp⟩
theorem aC{a:Act}{w:World}(h:Q .normal a w):b2 P ops Q R [] a w:=h
end
inductive PT where
 | stop
 | free (i:Nat) (rest:PT)
 | held (i:Nat) (rest:PT)
 | pick (is:List Nat) (f:Nat→PT)
section
variable {P:Program} {ops:Array Oper} {Q:Exit→Act→World→Prop} {md:Region.Mode} {R:World→World→Prop}
def cR(P:Program)(ops:Array Oper)(Q:Exit→Act→World→Prop)(R:World→World→Prop)(tails:List Nat):PT→Act→World→Prop
 | .stop,a,w=>Q .normal a w
 | .free i rest,a,w=>∃o v,ops[i]?=some o∧YieldsIf P ops (fun _=>True) o v a∧cR P ops Q R tails rest (a.put o.dst v) w
 | .held i rest,a,w=>∃o v,ops[i]?=some o∧YieldsIf P ops (R w) o v a∧cR P ops Q R tails rest (a.put o.dst v) w
 | .pick is f,a,w=>∀i∈is,∃o,ops[i]?=some o∧∀K:Act→World→Prop,(∀r ab,(tails.contains i=false→R w ab)→cR P ops Q R tails (f i) r ab→K r ab)→
   (if Region.wanted o (yielded ops a.tmps)=true then o.wp P a w K Q else K (a.put o.dst undef) w)
def ni(md:Region.Mode)(ops:Array Oper):PT→Nat→Array Bool→Bool
 | .stop,n,listed=>n == 0 && (Region.ready md ops listed).isEmpty
 | .free i rest,n,listed=>decide (0<n) && (Region.free md ops listed i && (Region.ready md ops listed).contains i && ni md ops rest (n - 1) (listed.setIfInBounds i true))
 | .held i rest,n,listed=>decide (0<n) && (Region.free md ops listed i && (Region.ready md ops listed).contains i && ni md ops rest (n - 1) (listed.setIfInBounds i true))
 | .pick is f,n,listed=>decide (0<n) && (!is.isEmpty && (Region.ready md ops listed == is) && is.all fun i=>ni md ops (f i) (n - 1) (listed.setIfInBounds i true))
def PT.oA:PT→List Nat
 | .stop=>[]
 | .free _ rest=>rest.oA
 | .held i rest=>i::rest.oA
 | .pick is f=>is.flatMap fun i=>(f i).oA
def xl(md:Region.Mode)(ops:Array Oper)(tails:List Nat)(p:PT):Bool:=
 Region.noSelect ops && (p.oA.all fun i=>tails.all fun j=>DO md ops ops.size j i) && ni md ops p ops.size (Array.replicate ops.size false)
theorem xq(tails:List Nat)(t:∀a b c,R a b→R b c→R a c)(l:∀a,R a a)(g:∀(j:Nat) (o:Oper) cs b,ops[j]?=some o→o.op≠.select cs b)
  (hQ:∀c a d v w,Q (.panic c) (a.put d v) w→Q (.panic c) a w) :
  ∀(p:PT) (n:Nat) (listed:Array Bool) (a:Act) (w:World),jY md ops listed→ni md ops p n listed=true→
   (∀i∈p.oA,∀j∈tails,∃f,DO md ops f j i=true)→cR P ops Q R tails p a w→km P md ops Q R (fun j=>!tails.contains j) n listed a w:=by
 intro p
 induction p with
 | stop=>
  intro n listed a w _ aS _ h;simp only[ni,Bool.and_eq_true,beq_iff_eq] at aS;obtain⟨rfl,aS⟩:=aS
  exact⟨by simpa using aS,h⟩
 | free i rest aq=>
  intro n listed a w inv aS ag h;obtain⟨o,v,al,bb,h⟩:=h;simp only[ni,Bool.and_eq_true,decide_eq_true_eq] at aS;obtain⟨hn,⟨J,hc⟩,aS⟩:=aS;obtain⟨m,rfl⟩:∃m,n=m+1:=⟨n - 1,by omega⟩
  have a9:i∈Region.ready md ops listed:=by simpa using hc
  exact ik (U:=fun _ _=>True) (fun _ _ _ _ _=>trivial) l (fun _=>trivial) al g (fun c a w=>hQ c a _ _ w) (.inl fun _ _=>trivial) m listed a w inv (Region.free_spec al J) a9 bb
   (aq m _ _ _ (inv.set a9) aS ag h)
 | held i rest aq=>
  intro n listed a w inv aS ag h;obtain⟨o,v,al,bb,h⟩:=h;simp only[ni,Bool.and_eq_true,decide_eq_true_eq] at aS;obtain⟨hn,⟨J,hc⟩,aS⟩:=aS;obtain⟨m,rfl⟩:∃m,n=m+1:=⟨n - 1,by omega⟩
  have a9:i∈Region.ready md ops listed:=by simpa using hc
  refine ik (U:=R) t l l al g (fun c a w=>hQ c a _ _ w) (.inr fun j bi=>ag i (by simp[PT.oA]) j (by simpa using bi)) m listed a w inv (Region.free_spec al J) a9 bb
   (aq m _ _ _ (inv.set a9) aS (fun i al=>ag i (by simp[PT.oA,al])) h)
 | pick is f aq=>
  intro n listed a w inv aS ag h;simp only[ni,Bool.and_eq_true,decide_eq_true_eq,beq_iff_eq] at aS;obtain⟨hn,⟨he,a9⟩,aS⟩:=aS;obtain⟨m,rfl⟩:∃m,n=m+1:=⟨n - 1,by omega⟩
  by_cases bl:is=[]
  ·subst bl;simp at he
  ·refine⟨fun h0=>absurd (by rw[←a9];exact h0) bl,fun j bi=>?_⟩;have e:=bi;rw[a9] at bi;obtain⟨o,al,h⟩:=h j bi;have s:=h (fun r ab=>((fun j=>!tails.contains j) j=true→R w ab)∧km P md ops Q R (fun j=>!tails.contains j) m (listed.setIfInBounds j true) r ab) fun r ab cB hp=>
    ⟨fun hT=>cB (by simpa using hT),aq j m _ _ _ (inv.set e) (by simpa using List.all_eq_true.1 aS j bi) (fun i al=>ag i (by simp only[PT.oA,List.mem_flatMap];exact⟨j,bi,al⟩)) hp⟩
   unfold Go.wpOp;simp only[al];split
   ·rename_i hw;rw[if_pos hw] at s;exact .inl s
   ·rename_i hw;rw[if_neg hw] at s;exact s
theorem q9(R:World→World→Prop)(tails:List Nat)(p:PT){id:Nat}{a:Act}{w:World}(hm:P.follows .mixedOrders=true)(aS:xl .any ops tails p=true)
  (l:∀a,R a a) (t:∀a b c,R a b→R b c→R a c) (hQ:∀c a d v w,Q (.panic c) (a.put d v) w→Q (.panic c) a w)
  (h:cR P ops Q R tails p a w.drew):(Code.region id ops true).wp P Q a w:=by
 simp only[xl,Bool.and_eq_true] at aS;obtain⟨⟨hs,br⟩,hp⟩:=aS;refine wp_region_any hm (mF (R:=R) (T:=fun j=>!tails.contains j) _ _ _ _ ?_);refine xq tails t l (Region.noSelect_spec hs) hQ p ops.size _ a _ (fun j n _ bi=>?_) hp (fun i al j bi=>?_) h
 ·rw[getD_replicate_false] at bi;cases bi
 ·have ac:=List.all_eq_true.1 br i al;exact⟨_,List.all_eq_true.1 ac j bi⟩
variable {tails:List Nat}
theorem cx{i:Nat}{o:Oper}{v:Value}{rest:PT}{a:Act}{w:World}(al:ops[i]?=some o)(hw:Region.wanted o (yielded ops a.tmps)=true)
  (bG:∀V,R w V→(execOp a.eval o).run P V=.ok (.value v) V) (h:cR P ops Q R tails rest (a.put o.dst v) w):cR P ops Q R tails (.held i rest) a w:=
 ⟨o,v,al,.inl ⟨hw,bG⟩,h⟩
theorem lJ{i:Nat}{o:Oper}{v:Value}{rest:PT}{a:Act}{w:World}(al:ops[i]?=some o)(hw:Region.wanted o (yielded ops a.tmps)=true)
  (bG:∀V,(execOp a.eval o).run P V=.ok (.value v) V) (h:cR P ops Q R tails rest (a.put o.dst v) w):cR P ops Q R tails (.free i rest) a w:=
 ⟨o,v,al,.inl ⟨hw,fun V _=>bG V⟩,h⟩
def oN(P:Program)(ops:Array Oper)(Q:Exit→Act→World→Prop)(R:World→World→Prop)(tails:List Nat)(i:Nat)(p:PT)(a:Act)(w:World):Prop:=
 ∃o,ops[i]?=some o∧∀K:Act→World→Prop,(∀r ab,(tails.contains i=false→R w ab)→cR P ops Q R tails p r ab→K r ab)→
   (if Region.wanted o (yielded ops a.tmps)=true then o.wp P a w K Q else K (a.put o.dst undef) w)
theorem aD{i:Nat}{o:Oper}{p:PT}{a:Act}{w:World}(al:ops[i]?=some o)
  (h:∀K:Act→World→Prop,(∀r ab,R w ab→cR P ops Q R tails p r ab→K r ab)→if Region.wanted o (yielded ops a.tmps)=true then o.wp P a w K Q else K (a.put o.dst undef) w)
  (hT:tails.contains i=false):oN P ops Q R tails i p a w:=⟨o,al,fun K hK=>h K fun r ab cB=>hK r ab fun _=>cB⟩
theorem bN{i:Nat}{o:Oper}{p:PT}{a:Act}{w:World}(al:ops[i]?=some o)
  (h:∀K:Act→World→Prop,(∀r ab,cR P ops Q R tails p r ab→K r ab)→if Region.wanted o (yielded ops a.tmps)=true then o.wp P a w K Q else K (a.put o.dst undef) w)
  (hT:tails.contains i=true):oN P ops Q R tails i p a w:=⟨o,al,fun K hK=>h K fun r ab hp=>hK r ab (fun h=>by rw[hT] at h;cases h) hp⟩
theorem aq{i:Nat}{f:Nat→PT}{a:Act}{w:World}(h:oN P ops Q R tails i (f i) a w):cR P ops Q R tails (.pick [i] f) a w:=fun j bi=>by
 have:j=i:=by simpa using bi
 subst this;exact h
theorem a5{i j:Nat}{f:Nat→PT}{a:Act}{w:World}(h:oN P ops Q R tails i (f i) a w)(ax:oN P ops Q R tails j (f j) a w):cR P ops Q R tails (.pick [i,j] f) a w:=fun k aj=>by
 simp only[List.mem_cons,List.not_mem_nil,or_false] at aj;rcases aj with rfl|rfl
 ·exact h
 ·exact ax
theorem ck{a:Act}{w:World}(h:Q .normal a w):cR P ops Q R tails .stop a w:=h
theorem lK{rest:PT}{aa:Nat→Act}{C:Nat→World→Prop}{G:Prop}(h:(∀g V,C g V→cR P ops Q R tails rest (aa g) V)→G)(key:∀g V,C g V→cR P ops Q R tails rest (aa g) V):G:=h key
end
theorem ae{p:Prop}(h:p):Mm p:=h
theorem Em{a b:Int}{k:IntKind}(h:a=b):Value.int k a=Value.int k b:=by rw[h]
theorem ret_int{a b:Int}{k:IntKind}(h:a=b):Ending.returned (.int k a)=.returned (.int k b):=by rw[h]
theorem ret_bool{a b:Bool}(h:a=b):Ending.returned (.bool a)=.returned (.bool b):=by rw[h]
theorem aU{α:Type}{l:List α}{k:Nat}{x:α}(h:l[k]?=some x):l.take (k+1)=l.take k++[x]:=by
 rw[List.take_add_one,h];rfl
theorem F3(x y:Int):(if y > x then y else x)=max x y:=by
 by_cases h:x≤y<;>simp[Int.max_def,h]<;>omega
theorem F4(x y:Int):(if y<x then y else x)=min x y:=by
 by_cases h:x≤y<;>simp[Int.min_def,h]<;>omega
theorem gC(P:Program)(w:World)(a:Array TypeId)(t:TypeId)(k F:IntKind)(x y:Int):(Builtin.max_ a t #[.int k x,.int F y]).run P w=.ok (.int k (max x y)) w:=by
 rw[run_max_int2,F3]
theorem gD(P:Program)(w:World)(a:Array TypeId)(t:TypeId)(k F:IntKind)(x y:Int):(Builtin.min_ a t #[.int k x,.int F y]).run P w=.ok (.int k (min x y)) w:=by
 rw[run_min_int2,F4]
theorem dJ{B:Nat}{a w:World}(h:Below B a w)(n:Nat):Below B a (w.drewN n):=⟨h.os,h.tape,h.output,h.size,h.block⟩
def cA{α:Type}(E:World→Nat→α→List Value→Prop)(sz:Nat)(w:World)(B:Nat)(A:Mk)(n:Nat)(l:List α):Prop:=
 l.length=n∧(0<n→∃b o,A=some ⟨b,o,none⟩∧b<B∧∀k x,l[k]?=some x→∃cs:List Value,E w B x cs∧cs.length=sz∧∀j v,cs[j]?=some v→w.cell? ⟨b,o+k*sz+j,none⟩=some v)
section
variable {α:Type} {E:World→Nat→α→List Value→Prop} {sz:Nat} {w ab:World} {B q n:Nat} {A:Mk} {l:List α}
theorem cA.bT(A:Mk):cA E sz w B A 0 ([]:List α):=⟨rfl,fun h=>absurd h (by omega)⟩
theorem cA.ak(h:cA E sz w B A n l)(O:Below B w ab)(aF:∀x cs,E w B x cs→E ab B x cs):cA E sz ab B A n l:=by
 refine⟨h.1,fun hn=>?_⟩;obtain⟨b,o,bO,an,hc⟩:=h.2 hn;refine⟨b,o,bO,an,fun k x hx=>?_⟩;obtain⟨cs,he,hl,bi⟩:=hc k x hx;exact⟨cs,aF _ _ he,hl,fun j v bG=>(O.cell (p:=⟨b,_,none⟩) an).trans (bi j v bG)⟩
theorem cA.more(h:cA E sz w B A n l)(aS:B≤q)(aF:∀x cs,E w B x cs→E w q x cs):cA E sz w q A n l:=by
 refine⟨h.1,fun hn=>?_⟩;obtain⟨b,o,bO,an,hc⟩:=h.2 hn;refine⟨b,o,bO,by omega,fun k x hx=>?_⟩;obtain⟨cs,he,hl,bi⟩:=hc k x hx;exact⟨cs,aF _ _ he,hl,bi⟩
end
def EF{α:Type}(f:α→List Value):World→Nat→α→List Value→Prop:=fun _ _ x cs=>cs=f x
section
variable {α:Type} {f:α→List Value} {sz:Nat} {w ab:World} {B q n:Nat} {A:Mk} {l:List α}
theorem cA.fH(h:cA (EF f) sz w B A n l)(O:Below B w ab):cA (EF f) sz ab B A n l:=h.ak O fun _ _ h=>h
theorem cA.Jx(h:cA (EF f) sz w B A n l)(aS:B≤q):cA (EF f) sz w q A n l:=h.more aS fun _ _ h=>h
theorem cA.cS(h:cA (EF f) sz w B A n l)(O:Below B w ab)(aS:B≤q):cA (EF f) sz ab q A n l:=(h.fH O).Jx aS
theorem cA.Je(h:cA (EF f) sz w B A n l){k:Nat}(aj:k<n) :
  ∃b o x,A=some ⟨b,o,none⟩∧b<B∧l[k]?=some x∧(f x).length=sz∧∀j v,(f x)[j]?=some v→w.cell? ⟨b,o+k*sz+j,none⟩=some v:=by
 obtain⟨b,o,bO,O,hc⟩:=h.2 (by omega);have hm:l[k]?=some (l[k]'(by have:=h.1;omega)):=List.getElem?_eq_getElem _;obtain⟨cs,he,hl,bi⟩:=hc k _ hm;rw[EF] at he;subst he;exact⟨b,o,_,bO,O,hm,hl,bi⟩
theorem cA.some_(h:cA (EF f) sz w B A n l)(aj:0<n):∃b o,A=some ⟨b,o,none⟩∧b<B:=by
 obtain⟨b,o,bO,O,_⟩:=h.2 aj;exact⟨b,o,bO,O⟩
end
theorem fU{α:Type}(f:α→List Value)(sz:Nat):∀(l:List α),(∀x∈l,(f x).length=sz)→∀k x,l[k]?=some x→∀j,j<sz→(l.flatMap f)[k*sz+j]?=(f x)[j]?
 | [],_,k,x,h,_,_=>by simp at h
 | a::l,hs,0,x,h,j,bi=>by
  have br:=hs a (by simp);simp only[List.getElem?_cons_zero,Option.some.injEq] at h;subst h;simp only[List.flatMap_cons,Nat.zero_mul,Nat.zero_add]
  rw[List.getElem?_append_left (by omega)]
 | a::l,hs,k+1,x,h,j,bi=>by
  have br:=hs a (by simp);simp only[List.getElem?_cons_succ] at h;have aq:=fU f sz l (fun y bb=>hs y (by simp[bb])) k x h j bi;simp only[List.flatMap_cons];rw[List.getElem?_append_right (by rw[br,Nat.succ_mul];omega),br,←aq];congr 1
  rw[Nat.succ_mul];omega
theorem gz{α:Type}(f:α→List Value)(sz:Nat)(l:List α)(hs:∀x∈l,(f x).length=sz):(l.flatMap f).length=l.length*sz:=by
 induction l with
 | nil=>simp
 | cons a l aq=>
  rw[List.flatMap_cons,List.length_append,hs a (by simp),aq (fun x hx=>hs x (by simp[hx])),List.length_cons,Nat.succ_mul];omega
theorem bH{w:World}{base:Nat}{e:TypeId}{sz:Nat}{v:Value}{n:Nat}{xs:List Value}(h:w.ownsRow base e sz v n xs) :
  ∃A c,v=.slice A n c∧n≤c∧c≤maxLen∧(A=none→n=0∧c=0)∧∀a,A=some a→∃g,a=⟨g,0,none⟩∧base≤g∧g<w.heap.size:=by
 rcases h.2 with⟨rfl,rfl⟩|⟨g,cap,cur,rfl,O,aY,hn,hc,_⟩
 ·exact⟨none,0,rfl,Nat.le_refl _,by simp,fun _=>⟨rfl,rfl⟩,fun _ h=>nomatch h⟩
 ·exact⟨_,_,rfl,hn,hc,(fun h=>nomatch h),fun a h=>(by injection h with h;exact⟨g,h.symm,O,(Array.getElem?_eq_some_iff.1 aY).1⟩)⟩
theorem hy{α:Type}{f:α→List Value}{w:World}{base:Nat}{e:TypeId}{sz:Nat}{A:Mk}{n c:Nat}{l:List α}
  (h:w.ownsRow base e sz (.slice A n c) n (l.flatMap f)) (hs:∀x∈l,(f x).length=sz) (hl:l.length=n):cA (EF f) sz w w.heap.size A n l:=by
 refine⟨hl,fun hn=>?_⟩;rcases h.2 with⟨bG,h0⟩|⟨g,cap,cur,bG,_,aY,aK,_,T,a⟩
 ·omega
 ·injection bG with bO _ _;subst bO;refine⟨g,0,rfl,(Array.getElem?_eq_some_iff.1 aY).1,fun k x hx=>⟨f x,rfl,hs x (List.mem_of_getElem? hx),fun j v bi=>?_⟩⟩;have r:j<sz:=by
   have:=hs x (List.mem_of_getElem? hx);have:=(List.getElem?_eq_some_iff.1 bi).1;omega
  have a7:k<l.length:=(List.getElem?_eq_some_iff.1 hx).1;have cr:=fU f sz l hs k x hx j r;rw[bi,←a,List.getElem?_take] at cr;split at cr
  ·rw[cell_of_row w g _ cur e (0,0) aY,Nat.zero_add];simpa using cr
  ·cases cr
theorem zk{w ab:World}{base B:Nat}{e:TypeId}{sz:Nat}{v:Value}{n:Nat}{xs:List Value}(h:w.ownsRow base e sz v n xs)(O:Below B w ab)(aS:∀g,v.ownBlock=some g→g<B):ab.ownsRow base e sz v n xs:=by
 refine⟨h.1,?_⟩;rcases h.2 with ax|⟨g,cap,cur,rfl,j,aY,rest⟩
 ·exact .inl ax
 ·exact .inr ⟨g,cap,cur,rfl,j,(O.block g (aS g rfl)).trans aY,rest⟩
theorem bR{w ab:World}{base:Nat}{e:TypeId}{sz:Nat}{v:Value}{n:Nat}{xs:List Value}(h:w.ownsRow base e sz v n xs)(O:Below w.heap.size w ab):ab.ownsRow base e sz v n xs:=
 zk h O fun g aY=>(h.lt g aY).2
theorem iv{w:World}{base:Nat}{e:TypeId}{sz:Nat}{A:Mk}{n c:Nat}{xs:List Value}(h:w.ownsRow base e sz (.slice A n c) n xs)(hn:0<n) :
  ∃g,A=some ⟨g,0,none⟩∧base≤g∧g<w.heap.size∧(∀j u,xs[j]?=some u→w.cell? ⟨g,j,none⟩=some u)∧(∀j,w.frozen? ⟨g,j,none⟩=false)∧
   ∀j u,j<n*sz→(w.setCell ⟨g,j,none⟩ u).ownsRow base e sz (.slice A n c) n (xs.set j u):=by
 rcases h.2 with⟨bG,h0⟩|⟨g,cap,cur,bG,O,aY,aK,v,T,a⟩
 ·omega
 ·injection bG with bO _ hc;subst bO hc;refine⟨g,rfl,O,(Array.getElem?_eq_some_iff.1 aY).1,fun j u hu=>?_,fun j=>?_,fun j u bi=>⟨by rw[List.length_set];exact h.1,.inr ⟨g,c,cur.setIfInBounds j u,rfl,O,?_,aK,v,by simpa using T,?_⟩⟩⟩
  ·rw[←a,List.getElem?_take] at hu;split at hu
   ·rw[cell_of_row w g j cur e (0,0) aY];simpa using hu
   ·cases hu
  ·simp[World.frozen?,aY]
  ·simp[World.setCell,Array.getElem?_modify,aY]
  ·rw[←a,Array.toList_setIfInBounds,List.take_set]
theorem j4{α:Type}(f:α→List Value)(sz:Nat):∀(l:List α),(∀x∈l,(f x).length=sz)→∀k x,l[k]?=some x→∀j u y,j<sz→(f x).set j u=f y→(l.flatMap f).set (k*sz+j) u=(l.set k y).flatMap f
 | [],_,k,x,h,_,_,_,_,_=>by simp at h
 | a::l,hs,0,x,h,j,u,y,bi,bb=>by
  have br:=hs a (by simp);simp only[List.getElem?_cons_zero,Option.some.injEq] at h;subst h;simp only[List.flatMap_cons,Nat.zero_mul,Nat.zero_add,List.set_cons_zero]
  rw[List.set_append_left _ _ (by omega),bb]
 | a::l,hs,k+1,x,h,j,u,y,bi,bb=>by
  have br:=hs a (by simp);simp only[List.getElem?_cons_succ] at h;have aq:=j4 f sz l (fun y bb=>hs y (by simp[bb])) k x h j u y bi bb;simp only[List.flatMap_cons,List.set_cons_succ];rw[List.set_append_right _ _ (by rw[br,Nat.succ_mul];omega),br,←aq];congr 2
  rw[Nat.succ_mul];omega
theorem sf{P:Program}(w:World)(t e:TypeId)(a:Mk)(n c aQ aD:Nat)(h:P.underlying t=some (.slice e)) :
  (binOp .eql t (.slice a n c) (.slice none aQ aD)).run P w=.ok (.bool a.isNone) w:=by
 have key:∀d:Nat,(Op.equalIn (d+1) t (.slice a n c) (.slice none aQ aD)).run P w=.ok a.isNone w:=fun d=>by
  rcases a with _|a<;>simp[Op.equalIn,run_underlying h]
 simp only[binOp];simp[Op.equal,Op.maxDepth,key 9999]
def Src(w:World)(sz:Nat)(A:Mk)(m:Nat)(news:List Value):Prop:=
 news.length=m*sz∧(∀u∈news,u.oneCell'=true)∧(0<m→∃b o,A=some ⟨b,o,none⟩∧∀j u,news[j]?=some u→w.cell? ⟨b,o+j,none⟩=some u)
theorem Src.one{w:World}{b:Nat}{u:Value}(h:w.cell? ⟨b,0,none⟩=some u)(ac:u.oneCell'=true):Src w 1 (some ⟨b,0,none⟩) 1 [u]:=
 ⟨rfl,by simpa using ac,fun _=>⟨b,0,rfl,fun j v bi=>by
  cases j with
  | zero=>simp at bi;subst bi;exact h
  | succ j=>simp at bi⟩⟩
theorem Src.block{w:World}{g:Nat}{e:TypeId}{xs:Array Value}{sz:Nat}(aY:w.heap[g]?=some (.cells xs e (0,0)))(m:Nat)(hm:xs.size=m*sz)(ac:∀u∈xs.toList,u.oneCell'=true) :
  Src w sz (some ⟨g,0,none⟩) m xs.toList:=
 ⟨by simpa using hm,ac,fun _=>⟨g,0,rfl,fun j u bi=>by
  rw[Nat.zero_add,cell_of_row w g j xs e (0,0) aY];simpa using bi⟩⟩
theorem Src.lT{α:Type}{f:α→List Value}{sz:Nat}{w:World}{B n:Nat}{A:Mk}{l:List α}(h:cA (EF f) sz w B A n l)(hs:∀x∈l,(f x).length=sz)(ac:∀x∈l,∀u∈f x,u.oneCell'=true)(aG:0<sz) :
  Src w sz A n (l.flatMap f):=by
 refine⟨by rw[gz f sz l hs,h.1],fun u hu=>?_,fun hn=>?_⟩
 ·obtain⟨x,hx,hu⟩:=List.mem_flatMap.1 hu;exact ac x hx u hu
 ·obtain⟨b,o,bO,_,hc⟩:=h.2 hn;refine⟨b,o,bO,fun j u bi=>?_⟩;have a1:=(List.getElem?_eq_some_iff.1 bi).1;rw[gz f sz l hs] at a1;have a7:j / sz<l.length:=by rw[Nat.div_lt_iff_lt_mul aG];exact a1
  have hx:l[j / sz]?=some (l[j / sz]'a7):=List.getElem?_eq_getElem a7;have d:=Nat.mod_lt j aG;have a:j / sz*sz+j % sz=j:=Nat.div_add_mod' j sz;have cr:=fU f sz l hs _ _ hx (j % sz) d;rw[a,bi] at cr;obtain⟨cs,he,_,c⟩:=hc _ _ hx;rw[EF] at he;subst he;have:=c _ _ cr.symm
  rwa [Nat.add_assoc,a] at this
def cm(P:Program)(t e:TypeId)(z:Value)(size bytes:Nat):Prop:=
 ∃i,P.underlying t=some (.slice e)∧P.info? e=some i∧i.zero=some z∧i.size=size∧i.bytes=bytes∧z.cells.size=size∧0<size
theorem cm.mk'{P:Program}{t e:TypeId}{z:Value}{size bytes:Nat}(ht:P.underlying t=some (.slice e))(al:(P.info? e).map (fun i=>(i.zero,i.size,i.bytes))=some (some z,size,bytes))(aG:z.cells.size=size)(h0:0<size):cm P t e z size bytes:=by
 obtain⟨i,ac,ax,a1,aU⟩:=info_parts al;exact⟨i,ht,ac,ax,a1,aU,aG,h0⟩
section
variable {P:Program} (w:World)
theorem uZ(base:Nat)(t ty e:TypeId)(i:TypeInfo)(size:Nat)(ht:P.underlying t=some (.slice e))(al:P.info? e=some i)
  (v:Value) (n:Nat) (xs:List Value) (az:w.ownsRow base e size v n xs) (c:Nat):(Builtin.append_ #[t,t] ty #[v,.slice none 0 c]).run P w=.ok v w:=by
 rcases az.2 with⟨rfl,rfl⟩|⟨g,cap,cur,rfl,_,_,aK,_⟩
 ·simp[Builtin.append_,run_underlying ht,sizeOf,typeInfo,al,Builtin.lenOf,Builtin.firstCells]
 ·simp[Builtin.append_,run_underlying ht,sizeOf,typeInfo,al,Builtin.lenOf,Builtin.firstCells,aK,storeCells]
theorem Gv{t e:TypeId}{z:Value}{size bytes:Nat}(bO:cm P t e z size bytes)(base:Nat)(ty:TypeId)(v:Value)(n:Nat)(xs:List Value)(az:w.ownsRow base e size v n xs)
  (A:Mk) (m c:Nat) (news:List Value) (hs:Src w size A m news) (r:(n+m)*bytes≤140737488355328) (y:n+m≤140737488355328) (C:base≤w.heap.size) (d:A=none→m=0) :
  ∃G ab,(Builtin.append_ #[t,t] ty #[v,.slice A m c]).run P w=.ok G ab∧ab.ownsRow base e size G (n+m) (xs++news)∧w.grownBy ab v.ownBlock∧
   (G.ownBlock=v.ownBlock∨G.ownBlock=some w.heap.size):=by
 obtain⟨i,ht,al,aG,g,T,cT,U⟩:=bO;rcases A with _|a
 ·have hm:=d rfl;subst hm;have hn:news=[]:=List.eq_nil_of_length_eq_zero (by simpa using hs.1);subst hn;exact⟨v,w,uZ w base t ty e i size ht al v n xs az c,by simpa using az,World.grownBy.refl w _,.inl rfl⟩
 ·have a7:∀j u,news[j]?=some u→w.cell? (a.add j)=some u:=by
   intro j u hu;rcases Nat.eq_zero_or_pos m with h0|h0
   ·subst h0;have hn:news=[]:=List.eq_nil_of_length_eq_zero (by simpa using hs.1);subst hn;simp at hu
   ·obtain⟨b,o,h,hc⟩:=hs.2.2 h0;injection h with h;subst h;have:=hc j u hu;by_cases bi:j=0
    ·subst bi;simpa[Addr.add] using this
    ·simpa[Addr.add,bi] using this
  obtain⟨G,ab,H,ax,a1,_,cy⟩:=run_append_own_at (P:=P) w base t ty e i z size bytes ht al aG g T cT U v n xs az a m c news hs.1 a7 hs.2.1 (by simp only[maxLen];omega) r C;exact⟨G,ab,H,ax,a1,cy⟩
theorem kn{o:Oper}{a:Act}{K:Act→World→Prop}{Q:Exit→Act→World→Prop}{t e:TypeId}{z:Value}{size bytes:Nat}(bO:cm P t e z size bytes)(s x:Operand)
  (bn:o.op=.call {callee:=.builtin .append,args:=#[s,x],argTypes:=#[t,t]})
  (base:Nat) (v:Value) (n:Nat) (xs:List Value) (hs:a.eval s=v) (az:w.ownsRow base e size v n xs)
  (A:Mk) (m c:Nat) (news:List Value) (hx:a.eval x=.slice A m c) (a9:Src w size A m news)
  (r:(n+m)*bytes≤140737488355328) (y:n+m≤140737488355328) (C:base≤w.heap.size) (d:A=none→m=0)
  (h:∀G ab,ab.ownsRow base e size G (n+m) (xs++news)→w.grownBy ab v.ownBlock→(G.ownBlock=v.ownBlock∨G.ownBlock=some w.heap.size)→K (a.put o.dst G) ab):o.wp P a w K Q:=by
 obtain⟨G,ab,H,ax,a1,aU⟩:=Gv (P:=P) w bO base o.type v n xs az A m c news a9 r y C d;unfold Oper.wp execOp;simp only[bn,resolve,invoke,builtin,Sem.run_bind,Sem.run_pure,Result.andThen_ok,List.map_toArray,List.map_cons,List.map_nil,hs,hx,H];exact h G ab ax a1 aU
theorem q4{ops:Array Oper}{rest:List Oper}{o:Oper}{a:Act}{Q:Exit→Act→World→Prop}{t e:TypeId}{z:Value}{size bytes:Nat}(bO:cm P t e z size bytes)(i:o.guard=none)(s x:Operand)
  (bn:o.op=.call {callee:=.builtin .append,args:=#[s,x],argTypes:=#[t,t]})
  (base:Nat) (v:Value) (n:Nat) (xs:List Value) (hs:a.eval s=v) (az:w.ownsRow base e size v n xs)
  (A:Mk) (m c:Nat) (news:List Value) (hx:a.eval x=.slice A m c) (a9:Src w size A m news)
  (r:(n+m)*bytes≤140737488355328) (y:n+m≤140737488355328) (C:base≤w.heap.size) (d:A=none→m=0)
  (h:∀G ab,ab.ownsRow base e size G (n+m) (xs++news)→w.grownBy ab v.ownBlock→(G.ownBlock=v.ownBlock∨G.ownBlock=some w.heap.size)→wpList P ops Q rest (a.put o.dst G) ab):wpList P ops Q (o::rest) a w:=
 wpList_plain i fun _ hK=>kn w bO s x bn base v n xs hs az A m c news hx a9 r y C d fun G ab ax a1 aU=>hK _ _ (h G ab ax a1 aU)
end
theorem cy{P:Program}(S:World){ops:Array Oper}{rest:List Oper}{o:Oper}{a:Act}{Q:Exit→Act→World→Prop}{t e:TypeId}{z:Value}{size bytes:Nat}(bO:cm P t e z size bytes)(i:o.guard=none)(s x:Operand)
  (bn:o.op=.call {callee:=.builtin .append,args:=#[s,x],argTypes:=#[t,t]})
  (base:Nat) (v:Value) (n:Nat) (xs:List Value) (cs:Array Value) (hs:a.eval s=v) (az:S.ownsRow base e size v n xs)
  (hx:a.eval x=.slice (some ⟨S.heap.size,0,none⟩) 1 1) (T:cs.size=size) (ac:∀u∈cs.toList,u.oneCell'=true)
  (r:(n+1)*bytes≤140737488355328) (y:n+1≤140737488355328) (C:base≤S.heap.size)
  (h:∀G ab,ab.ownsRow base e size G (n+1) (xs++cs.toList)→S.grownBy ab v.ownBlock→(G.ownBlock=v.ownBlock∨G.ownBlock=some (S.heap.size+1))→wpList P ops Q rest (a.put o.dst G) ab):wpList P ops Q (o::rest) a (S.alloc (.cells cs e)):=by
 refine q4 _ bO i s x bn base v n xs hs (az.alloc _) _ 1 1 cs.toList hx (Src.block (heap_alloc_new S _) 1 (by omega) ac) r y (by simp;omega) (fun h=>nomatch h) fun G ab ax a1 aU=>?_;refine h G ab ax ⟨a1.os,a1.tape,a1.output,by have:=a1.size;simp at this;omega,fun k aj bl=>(a1.block k (by simp;omega) bl).trans (Below.heap_alloc S _ k aj)⟩ ?_;simpa using aU
theorem Src.on{w ab:World}{sz m:Nat}{A:Mk}{news:List Value}(h:Src w sz A m news)(O:Below w.heap.size w ab):Src ab sz A m news:=by
 refine⟨h.1,h.2.1,fun hm=>?_⟩;obtain⟨b,o,bO,hc⟩:=h.2.2 hm;refine⟨b,o,bO,fun j u bi=>?_⟩;have c:=hc j u bi;exact(O.cell (p:=⟨b,o+j,none⟩) (World.block_lt_of_cell? w _ c)).trans c
theorem gi{P:Program}(S:World){ops:Array Oper}{rest:List Oper}{o:Oper}{a:Act}{Q:Exit→Act→World→Prop}{t e:TypeId}{z:Value}{size bytes:Nat}(bO:cm P t e z size bytes)(i:o.guard=none)(s x:Operand)
  (bn:o.op=.call {callee:=.builtin .append,args:=#[s,x],argTypes:=#[t,t]})
  (hs:a.eval s=.slice (some ⟨S.heap.size,0,none⟩) 0 0) (A:Mk) (m c:Nat) (news:List Value) (hx:a.eval x=.slice A m c) (a9:Src S size A m news)
  (r:m*bytes≤140737488355328) (y:m≤140737488355328) (d:A=none→m=0)
  (h:∀I aD ab,ab.ownsRow S.heap.size e size (.slice I m aD) m news→Below S.heap.size S ab→wpList P ops Q rest (a.put o.dst (.slice I m aD)) ab):wpList P ops Q (o::rest) a (S.alloc (.cells #[] e)):=by
 have az:(S.alloc (.cells #[] e)).ownsRow S.heap.size e size (.slice (some ⟨S.heap.size,0,none⟩) 0 0) 0 []:=World.ownsRow_made S #[] 0 (Nat.le_refl _) (Nat.zero_le _) (by simp);refine q4 _ bO i s x bn S.heap.size _ 0 [] hs az A m c news hx (a9.on ((Below.refl _ _).alloc (Nat.le_refl _) _)) (by rw[Nat.zero_add];exact r) (by omega) (by simp) d fun G ab ax a1 aU=>?_;simp only[Nat.zero_add,List.nil_append] at ax;have O:Below S.heap.size S ab:=((Below.refl _ _).alloc (Nat.le_refl _) _).grown a1 (by simp) (by simp[Value.ownBlock]);obtain⟨I,aD,rfl,_⟩:=bH ax;exact h I aD ab ax O
theorem dX{B:Nat}{a w ab:World}{base:Nat}{e:TypeId}{sz:Nat}{v:Value}{n:Nat}{xs:List Value}(h:Below B a w)(az:w.ownsRow base e sz v n xs)(aY:w.grownBy ab v.ownBlock)(aS:B≤base)(cb:B≤w.heap.size):Below B a ab:=
 h.grown aY cb fun k aj=>Nat.le_trans aS (az.lt k aj).1
section
variable {P:Program} {t e:TypeId} {z:Value} {size bytes:Nat}
theorem run_mk(bO:cm P t e z size bytes)(kl kc:IntKind)(n:Nat)(O:bytes*n≤281474976710656)(y:n≤281474976710656)(w:World) :
  (Instr.makeSlice t (.int kl (n:Int)) (.int kc (n:Int))).run P w=.ok (.slice (some ⟨w.heap.size,0,none⟩) n n) (w.alloc (.cells (madeCells z.cells (n*size)) e)):=by
 obtain⟨i,ht,al,aG,g,T,cT,U⟩:=bO;have a:(i.bytes:Int)*(n:Int)≤281474976710656:=by
  have h:((i.bytes*n:Nat):Int)≤281474976710656:=by rw[T];omega
  rwa [Int.natCast_mul] at h
 have a9:=run_make (P:=P) w t e i z ht al aG kl kc n n (by omega) (by omega) a (by omega);simp only[Int.toNat_natCast] at a9;rw[a9,g]
theorem r4{α:Type}{f:α→List Value}{x:α}{zc:Array Value}{sz:Nat}(aG:zc.toList=f x)(hs:(f x).length=sz)(h0:0<sz)(n:Nat):(madeCells zc (n*sz)).toList=(List.replicate n x).flatMap f:=by
 have cT:zc.size=sz:=by rw[←Array.length_toList,aG,hs]
 apply List.ext_getElem?
 intro j;by_cases bi:j<n*sz
 ·have aj:j / sz<n:=by rw[Nat.div_lt_iff_lt_mul h0];exact bi
  have hm:=Nat.mod_lt j h0;have hx:(List.replicate n x)[j / sz]?=some x:=by rw[List.getElem?_replicate,if_pos aj]
  have:=fU f sz (List.replicate n x) (fun y bb=>by rw[(List.mem_replicate.1 bb).2];exact hs) _ _ hx _ hm;rw[Nat.div_add_mod'] at this;rw[this,←aG];have bg:j % zc.size<zc.size:=by rw[cT];exact hm
  simp only[madeCells,Array.getElem?_toList,Array.getElem?_map,Array.getElem?_range,bi,if_pos,Option.map_some];rw[←cT,getElem!_pos zc _ bg,Array.getElem?_eq_getElem bg]
 ·rw[List.getElem?_eq_none (by rw[Array.length_toList,size_madeCells];omega),List.getElem?_eq_none (by rw[gz f sz _ (fun y bb=>by rw[(List.mem_replicate.1 bb).2];exact hs),List.length_replicate];omega)]
theorem EI{α:Type}{f:α→List Value}{x:α}{zc:Array Value}{sz:Nat}(aG:zc.toList=f x)(hs:(f x).length=sz)(h0:0<sz)(n:Nat)(hn:n≤281474976710656){w:World}{base:Nat}(O:base≤w.heap.size) :
  (w.alloc (.cells (madeCells zc (n*sz)) e)).ownsRow base e sz (.slice (some ⟨w.heap.size,0,none⟩) n n) n ((List.replicate n x).flatMap f):=by
 rw[←r4 aG hs h0 n];exact World.ownsRow_lit w _ n O (by unfold maxLen;omega) (size_madeCells _ _)
end
def cd(x:Int):List Value:=[.int .i64 x]
def oQ(x:ByteArray):List Value:=[.string x]
theorem cA.int{w:World}{B n:Nat}{A:Mk}{l:List Int}(h:cA (EF cd) 1 w B A n l){k:Nat}(aj:k<n) :
  ∃b o x,A=some ⟨b,o,none⟩∧b<B∧l[k]?=some x∧w.cell? ⟨b,o+k,none⟩=some (.int .i64 x):=by
 obtain⟨b,o,x,bO,O,hx,_,hc⟩:=h.Je aj;have:=hc 0 _ rfl;simp only[Nat.mul_one,Nat.add_zero] at this;exact⟨b,o,x,bO,O,hx,this⟩
theorem cA.str{w:World}{B n:Nat}{A:Mk}{l:Ml}(h:cA (EF oQ) 1 w B A n l){k:Nat}(aj:k<n) :
  ∃b o x,A=some ⟨b,o,none⟩∧b<B∧l[k]?=some x∧w.cell? ⟨b,o+k,none⟩=some (.string x):=by
 obtain⟨b,o,x,bO,O,hx,_,hc⟩:=h.Je aj;have:=hc 0 _ rfl;simp only[Nat.mul_one,Nat.add_zero] at this;exact⟨b,o,x,bO,O,hx,this⟩
theorem ur(l:List Int):l.flatMap cd=l.map (Value.int .i64):=by
 induction l with
 | nil=>rfl
 | cons a l aq=>rw[List.flatMap_cons,aq];rfl
theorem fF(l:List Int)(x:Int):(l++[x]).flatMap cd=l.flatMap cd++[.int .i64 x]:=by
 rw[List.flatMap_append];rfl
theorem jO(k:IntKind)(x:Int):∀u∈(#[Value.int k x]:Array Value).toList,u.oneCell'=true:=by
 intro u hu;simp at hu;subst hu;rfl
theorem ho(l:List Int):∀x∈l,(cd x).length=1:=fun _ _=>rfl
theorem row_slr{k:IntKind}{w:World}{a:Mk}{len cap:Nat}{b:List Int}
  (h:(a=none∧len=0∧cap=0∧b=[])∨∃x,a=some x∧len≤cap∧cap≤maxLen∧b.length=cap∧(∀i,i<b.length→w.cell? (x.add i)=some (.int k (b.getD i 0)))∧∀n∈b,(Lit.int k n).wf=true) (aj:k=.i64) :
  cA (EF cd) 1 w w.heap.size a len (b.take len):=by
 subst aj;rcases h with⟨rfl,rfl,rfl,rfl⟩|⟨x,rfl,aY,_,aG,hc,_⟩
 ·exact cA.bT _
 ·refine⟨by simp;omega,fun hn=>?_⟩;have h0:=hc 0 (by omega);have hx:x.spot=none:=by
   have ac:w.cell? x=some (.int .i64 (b.getD 0 0)):=by simpa[Addr.add] using h0
   cases hs:x.spot with
   | none=>rfl
   | some s=>
    rw[World.cell?] at ac;split at ac
    ·rw[hs] at ac;simp at ac
    ·cases ac
  have T:=World.block_lt_of_cell? w _ h0;refine⟨x.block,x.off,by rw[←hx],by simpa[Addr.add] using T,fun j v bi=>⟨cd v,rfl,rfl,fun i u hu=>?_⟩⟩;have a1:=(List.getElem?_eq_some_iff.1 bi).1;rw[List.length_take] at a1;have c:=hc j (by omega);rw[List.getElem?_take] at bi;split at bi
  ·have bG:b.getD j 0=v:=by rw[List.getD_eq_getElem?_getD,bi];rfl
   rw[bG] at c;have al:i=0∧u=.int .i64 v:=by
    cases i with
    | zero=>simp[cd] at hu;exact⟨rfl,hu.symm⟩
    | succ i=>simp[cd] at hu
   obtain⟨rfl,rfl⟩:=al;have br:x.add j=⟨x.block,x.off+j*1+0,none⟩:=by
    rw[Nat.mul_one,Nat.add_zero];unfold Addr.add;split
    ·rename_i cI;rw[cI,Nat.add_zero,←hx]
    ·rfl
   rw[br] at c;exact c
  ·cases bi
theorem cU:cm prog 22 3 (.int .i64 0) 1 8:=cm.mk' Tryz.underlying22 (by kernel_rfl) rfl (by omega)
inductive D where
 | i (n:Int)
 | b (x:Bool)
 | s (x:ByteArray)
 | st (l:List D)
 | sl (l:List D)
mutual
def D.rep(w:World)(P:Nat→Prop):D→List Value→Prop
 | .i n=>fun cs=>cs=[.int .i64 n]
 | .b x=>fun cs=>cs=[.bool x]
 | .s x=>fun cs=>cs=[.string x]
 | .st l=>fun cs=>D.aO w P l cs
 | .sl l=>fun cs=>∃A c,cs=[.slice A l.length c]∧l.length≤c∧(0<l.length→∃b o xs,A=some ⟨b,o,none⟩∧P b∧D.aO w P l xs∧∀j u,xs[j]?=some u→w.cell? ⟨b,o+j,none⟩=some u)
def D.aO(w:World)(P:Nat→Prop):List D→List Value→Prop
 | []=>fun cs=>cs=[]
 | d::l=>fun cs=>∃x y,cs=x++y∧D.rep w P d x∧D.aO w P l y
end
mutual
def D.sz:D→Nat
 | .i _=>1
 | .b _=>1
 | .s _=>1
 | .st l=>D.zy l
 | .sl _=>1
def D.zy:List D→Nat
 | []=>0
 | d::l=>D.sz d+D.zy l
end
mutual
theorem D.lG{w:World}{P:Nat→Prop}:∀(d:D) (cs:List Value),d.rep w P cs→cs.length=d.sz
 | .i n,cs,h=>by simp only[D.rep] at h;subst h;rfl
 | .b x,cs,h=>by simp only[D.rep] at h;subst h;rfl
 | .s x,cs,h=>by simp only[D.rep] at h;subst h;rfl
 | .st l,cs,h=>by simp only[D.rep] at h;simp only[D.sz];exact D.hA l cs h
 | .sl l,cs,h=>by simp only[D.rep] at h;obtain⟨A,c,rfl,_⟩:=h;rfl
theorem D.hA{w:World}{P:Nat→Prop}:∀(l:List D) (cs:List Value),D.aO w P l cs→cs.length=D.zy l
 | [],cs,h=>by simp only[D.aO] at h;subst h;rfl
 | d::l,cs,h=>by
  simp only[D.aO] at h;obtain⟨x,y,rfl,hx,bb⟩:=h;simp only[D.zy,List.length_append,D.lG d x hx,D.hA l y bb]
end
mutual
theorem D.aP{w ab:World}{P:Nat→Prop}(aj:∀b,P b→ab.heap[b]?=w.heap[b]?):∀(d:D) (cs:List Value),d.rep w P cs→d.rep ab P cs
 | .i n,cs,h=>by simpa only[D.rep] using h
 | .b x,cs,h=>by simpa only[D.rep] using h
 | .s x,cs,h=>by simpa only[D.rep] using h
 | .st l,cs,h=>by simp only[D.rep] at h ⊢;exact D.bU aj l cs h
 | .sl l,cs,h=>by
  simp only[D.rep] at h ⊢;obtain⟨A,c,T,hc,hn⟩:=h;refine⟨A,c,T,hc,fun h0=>?_⟩;obtain⟨b,o,xs,bO,O,a9,bi⟩:=hn h0;exact⟨b,o,xs,bO,O,D.bU aj l xs a9,fun j u hu=>(World.cell?_of_block (w:=w) (aj b O)).trans (bi j u hu)⟩
theorem D.bU{w ab:World}{P:Nat→Prop}(aj:∀b,P b→ab.heap[b]?=w.heap[b]?):∀(l:List D) (cs:List Value),D.aO w P l cs→D.aO ab P l cs
 | [],cs,h=>by simpa only[D.aO] using h
 | d::l,cs,h=>by
  simp only[D.aO] at h ⊢;obtain⟨x,y,rfl,hx,bb⟩:=h;exact⟨x,y,rfl,D.aP aj d x hx,D.bU aj l y bb⟩
end
mutual
theorem D.aK{w:World}{P cW:Nat→Prop}(hp:∀b,P b→cW b):∀(d:D) (cs:List Value),d.rep w P cs→d.rep w cW cs
 | .i n,cs,h=>by simpa only[D.rep] using h
 | .b x,cs,h=>by simpa only[D.rep] using h
 | .s x,cs,h=>by simpa only[D.rep] using h
 | .st l,cs,h=>by simp only[D.rep] at h ⊢;exact D.bV hp l cs h
 | .sl l,cs,h=>by
  simp only[D.rep] at h ⊢;obtain⟨A,c,T,hc,hn⟩:=h;refine⟨A,c,T,hc,fun h0=>?_⟩;obtain⟨b,o,xs,bO,O,a9,bi⟩:=hn h0;exact⟨b,o,xs,bO,hp b O,D.bV hp l xs a9,bi⟩
theorem D.bV{w:World}{P cW:Nat→Prop}(hp:∀b,P b→cW b):∀(l:List D) (cs:List Value),D.aO w P l cs→D.aO w cW l cs
 | [],cs,h=>by simpa only[D.aO] using h
 | d::l,cs,h=>by
  simp only[D.aO] at h ⊢;obtain⟨x,y,rfl,hx,bb⟩:=h;exact⟨x,y,rfl,D.aK hp d x hx,D.bV hp l y bb⟩
end
mutual
theorem D.tu{w:World}{P:Nat→Prop}:∀(d:D) (cs:List Value),d.rep w P cs→∀u∈cs,u.oneCell'=true
 | .i n,cs,h=>by simp only[D.rep] at h;subst h;simp[Value.oneCell']
 | .b x,cs,h=>by simp only[D.rep] at h;subst h;simp[Value.oneCell']
 | .s x,cs,h=>by simp only[D.rep] at h;subst h;simp[Value.oneCell']
 | .st l,cs,h=>by simp only[D.rep] at h;exact D.qQ l cs h
 | .sl l,cs,h=>by simp only[D.rep] at h;obtain⟨A,c,rfl,_⟩:=h;simp[Value.oneCell']
theorem D.qQ{w:World}{P:Nat→Prop}:∀(l:List D) (cs:List Value),D.aO w P l cs→∀u∈cs,u.oneCell'=true
 | [],cs,h=>by simp only[D.aO] at h;subst h;simp
 | d::l,cs,h=>by
  simp only[D.aO] at h;obtain⟨x,y,rfl,hx,bb⟩:=h;intro u hu;rcases List.mem_append.1 hu with hu|hu
  ·exact D.tu d x hx u hu
  ·exact D.qQ l y bb u hu
end
theorem D.cK{w:World}{P:Nat→Prop}:∀{l m:List D} {x y:List Value},D.aO w P l x→D.aO w P m y→D.aO w P (l++m) (x++y)
 | [],m,x,y,hx,bb=>by simp only[D.aO] at hx;subst hx;exact bb
 | d::l,m,x,y,hx,bb=>by
  simp only[D.aO,List.cons_append] at hx ⊢;obtain⟨a,c,rfl,br,hc⟩:=hx;exact⟨a,c++y,by rw[List.append_assoc],br,D.cK hc bb⟩
theorem D.ke{w:World}{P:Nat→Prop}:∀{l m:List D} {x:List Value},D.aO w P (l++m) x→∃y z,x=y++z∧D.aO w P l y∧D.aO w P m z
 | [],m,x,h=>⟨[],x,rfl,by simp only[D.aO],h⟩
 | d::l,m,x,h=>by
  simp only[D.aO,List.cons_append] at h;obtain⟨a,c,rfl,br,hc⟩:=h;obtain⟨y,z,rfl,bb,aG⟩:=D.ke hc;exact⟨a++y,z,by rw[List.append_assoc],by simp only[D.aO];exact⟨a,y,rfl,br,bb⟩,aG⟩
theorem D.bw{w:World}{P:Nat→Prop}{d:D}{x:List Value}:D.aO w P [d] x↔d.rep w P x:=by
 simp only[D.aO];constructor
 ·rintro⟨a,b,rfl,br,rfl⟩;simpa using br
 ·intro h;exact⟨x,[],by simp,h,rfl⟩
theorem D.g5{z:Nat}:∀{l:List D},(∀d∈l,d.sz=z)→D.zy l=l.length*z
 | [],_=>by simp[D.zy]
 | d::l,h=>by
  have aq:D.zy l=l.length*z:=D.g5 (fun x hx=>h x (List.mem_cons_of_mem _ hx));simp only[D.zy,List.length_cons,Nat.succ_mul,h d (List.mem_cons_self),aq];omega
theorem D.px{w:World}{P:Nat→Prop}{z:Nat}:∀{l:List D} {xs:List Value},D.aO w P l xs→(∀d∈l,d.sz=z)→∀{k:Nat} {d:D},l[k]?=some d→
  ∃cs,d.rep w P cs∧cs.length=z∧∀j u,cs[j]?=some u→xs[k*z+j]?=some u
 | [],xs,_,_,k,d,aj=>by simp at aj
 | e::l,xs,h,aG,0,d,aj=>by
  simp only[D.aO] at h;obtain⟨x,y,rfl,hx,_⟩:=h;simp only[List.getElem?_cons_zero,Option.some.injEq] at aj;subst aj;refine⟨x,hx,(D.lG _ _ hx).trans (aG e (by simp)),fun j u hu=>?_⟩;rw[Nat.zero_mul,Nat.zero_add,List.getElem?_append_left (List.getElem?_eq_some_iff.1 hu).1]
  exact hu
 | e::l,xs,h,aG,k+1,d,aj=>by
  simp only[D.aO] at h;obtain⟨x,y,rfl,hx,bb⟩:=h;simp only[List.getElem?_cons_succ] at aj;obtain⟨cs,a9,hl,bi⟩:=D.px bb (fun x hx=>aG x (by simp[hx])) aj;have b3:=(D.lG _ _ hx).trans (aG e (by simp));refine⟨cs,a9,hl,fun j u hu=>?_⟩;rw[List.getElem?_append_right (by rw[b3,Nat.succ_mul];omega),b3,show (k+1)*z+j - z=k*z+j by rw[Nat.succ_mul];omega];exact bi j u hu
def Sl(w:World)(P:Nat→Prop)(A:Mk)(n:Nat)(l:List D):Prop:=
 l.length=n∧(0<n→∃b o xs,A=some ⟨b,o,none⟩∧P b∧D.aO w P l xs∧∀j u,xs[j]?=some u→w.cell? ⟨b,o+j,none⟩=some u)
section
variable {w ab:World} {P cW:Nat→Prop} {A:Mk} {n z:Nat} {l:List D}
theorem D.tA{cs:List Value}:(D.sl l).rep w P cs↔∃A c n,cs=[.slice A n c]∧n≤c∧Sl w P A n l:=by
 simp only[D.rep,Sl];constructor
 ·rintro⟨A,c,rfl,hc,h⟩;exact⟨A,c,_,rfl,hc,rfl,h⟩
 ·rintro⟨A,c,n,rfl,hc,rfl,h⟩;exact⟨A,c,rfl,hc,h⟩
theorem Sl.bT(A:Mk):Sl w P A 0 []:=⟨rfl,fun h=>absurd h (by omega)⟩
theorem Sl.ak(h:Sl w P A n l)(aj:∀b,P b→ab.heap[b]?=w.heap[b]?):Sl ab P A n l:=by
 refine⟨h.1,fun hn=>?_⟩;obtain⟨b,o,xs,bO,O,a9,bi⟩:=h.2 hn;exact⟨b,o,xs,bO,O,D.bU aj l xs a9,fun j u hu=>(World.cell?_of_block (w:=w) (aj b O)).trans (bi j u hu)⟩
theorem Sl.mono(h:Sl w P A n l)(hp:∀b,P b→cW b):Sl w cW A n l:=by
 refine⟨h.1,fun hn=>?_⟩;obtain⟨b,o,xs,bO,O,a9,bi⟩:=h.2 hn;exact⟨b,o,xs,bO,hp b O,D.bV hp l xs a9,bi⟩
theorem Sl.some_(h:Sl w P A n l)(hn:0<n):∃b o,A=some ⟨b,o,none⟩∧P b:=by
 obtain⟨b,o,xs,bO,O,_⟩:=h.2 hn;exact⟨b,o,bO,O⟩
theorem Sl.none_(h:Sl w P none n l):n=0:=by
 rcases Nat.eq_zero_or_pos n with h0|h0
 ·exact h0
 ·obtain⟨b,o,bO,_⟩:=h.some_ h0;cases bO
theorem Sl.at_(h:Sl w P A n l)(aG:∀d∈l,d.sz=z){k:Nat}(aj:k<n) :
  ∃b o d cs,A=some ⟨b,o,none⟩∧P b∧l[k]?=some d∧d.rep w P cs∧cs.length=z∧∀j u,cs[j]?=some u→w.cell? ⟨b,o+k*z+j,none⟩=some u:=by
 obtain⟨b,o,xs,bO,O,a9,bi⟩:=h.2 (by omega);have hm:l[k]?=some (l[k]'(by have:=h.1;omega)):=List.getElem?_eq_getElem _;obtain⟨cs,hd,hl,hc⟩:=D.px a9 aG hm;exact⟨b,o,_,cs,bO,O,hm,hd,hl,fun j u hu=>by rw[Nat.add_assoc];exact bi _ u (hc j u hu)⟩
theorem Sl.g9{α:Type}{enc:α→D}{l:List α}(h:Sl w P A n (l.map enc))(aG:∀x,(enc x).sz=z){k:Nat}(aj:k<n) :
  ∃b o x cs,A=some ⟨b,o,none⟩∧P b∧l[k]?=some x∧(enc x).rep w P cs∧cs.length=z∧∀j u,cs[j]?=some u→w.cell? ⟨b,o+k*z+j,none⟩=some u:=by
 obtain⟨b,o,d,cs,bO,O,hd,a9,hl,hc⟩:=h.at_ (z:=z) (fun d hd=>by obtain⟨x,_,rfl⟩:=List.mem_map.1 hd;exact aG x) aj;rw[List.getElem?_map] at hd
 cases hx:l[k]? with
 | none=>rw[hx] at hd;cases hd
 | some x=>
  rw[hx] at hd;injection hd with hd;subst hd;exact⟨b,o,x,cs,bO,O,rfl,a9,hl,hc⟩
theorem Sl.take(h:Sl w P A n l){m:Nat}(hm:m≤n):Sl w P A m (l.take m):=by
 refine⟨by have:=h.1;simp;omega,fun h0=>?_⟩;obtain⟨b,o,xs,bO,O,a9,bi⟩:=h.2 (by omega);rw[←List.take_append_drop m l] at a9;obtain⟨y,cm,rfl,bb,_⟩:=D.ke a9;exact⟨b,o,y,bO,O,bb,fun j u hu=>bi j u (by rw[List.getElem?_append_left (List.getElem?_eq_some_iff.1 hu).1];exact hu)⟩
theorem Sl.src(h:Sl w P A n l)(aG:∀d∈l,d.sz=z):∃xs,D.aO w P l xs∧Src w z A n xs:=by
 rcases Nat.eq_zero_or_pos n with hn|hn
 ·subst hn;have:l=[]:=List.eq_nil_of_length_eq_zero h.1;subst this;exact⟨[],by simp only[D.aO],by simp,by simp,fun h=>absurd h (by omega)⟩
 ·obtain⟨b,o,xs,bO,O,a9,bi⟩:=h.2 hn;exact⟨xs,a9,by rw[D.hA _ _ a9,D.g5 aG,h.1],D.qQ l xs a9,fun _=>⟨b,o,bO,bi⟩⟩
theorem Sl.qE{base:Nat}{e:TypeId}{c:Nat}{xs:List Value}(h:w.ownsRow base e z (.slice A n c) n xs)(a9:D.aO w P l xs)(hl:l.length=n)(be:∀g,A=some ⟨g,0,none⟩→base≤g→g<w.heap.size→P g):Sl w P A n l:=by
 refine⟨hl,fun hn=>?_⟩;obtain⟨g,bO,O,aY,hc,_⟩:=iv h hn;exact⟨g,0,xs,bO,be g bO O aY,a9,fun j u hu=>by rw[Nat.zero_add];exact hc j u hu⟩
end
abbrev av(w:World):Nat→Prop:=fun b=>b<w.heap.size
theorem D.on{w ab:World}{d:D}{cs:List Value}(h:d.rep w (av w) cs)(O:Below w.heap.size w ab):d.rep ab (av ab) cs:=
 D.aK (fun _ ap=>Nat.lt_of_lt_of_le ap O.size) _ _ (D.aP (fun b ap=>O.block b ap) _ _ h)
theorem Sl.on{w ab:World}{A:Mk}{n:Nat}{l:List D}(h:Sl w (av w) A n l)(O:Below w.heap.size w ab):Sl ab (av ab) A n l:=
 (h.ak (fun b ap=>O.block b ap)).mono (fun _ ap=>Nat.lt_of_lt_of_le ap O.size)
structure Fr(M:Nat→Prop)(w ab:World):Prop where
 os:ab.os=w.os
 tape:ab.tape=w.tape
 output:ab.output=w.output
 size:w.heap.size≤ab.heap.size
 block:∀k,k<w.heap.size→¬M k→ab.heap[k]?=w.heap[k]?
abbrev Ext:World→World→Prop:=Fr fun _=>False
section
variable {M M':Nat→Prop} {a b c:World}
theorem Fr.refl(M:Nat→Prop)(w:World):Fr M w w:=⟨rfl,rfl,rfl,Nat.le_refl _,fun _ _ _=>rfl⟩
theorem Fr.trans(h:Fr M a b)(k:Fr M b c):Fr M a c:=
 ⟨k.os.trans h.os,k.tape.trans h.tape,k.output.trans h.output,Nat.le_trans h.size k.size,fun i al hn=>(k.block i (Nat.lt_of_lt_of_le al h.size) hn).trans (h.block i al hn)⟩
theorem Fr.mono(h:Fr M a b)(hM:∀k,M k→M' k):Fr M' a b:=⟨h.os,h.tape,h.output,h.size,fun k aj hn=>h.block k aj fun hm=>hn (hM k hm)⟩
theorem Fr.of(h:Below a.heap.size a b):Fr M a b:=⟨h.os,h.tape,h.output,h.size,fun k aj _=>h.block k aj⟩
theorem Fr.below{B:Nat}(h:Fr M a b)(aS:B≤a.heap.size)(hM:∀k,k<B→¬M k):Below B a b:=⟨h.os,h.tape,h.output,h.size,fun k aj=>h.block k (Nat.lt_of_lt_of_le aj aS) (hM k aj)⟩
theorem Fr.low(h:Fr M a b)(hM:∀k,M k→a.heap.size≤k):Ext a b:=⟨h.os,h.tape,h.output,h.size,fun k aj _=>h.block k aj fun hm=>by have:=hM k hm;omega⟩
theorem Fr.ext(h:Ext a b):Below a.heap.size a b:=h.below (Nat.le_refl _) fun _ _ h=>h
theorem Fr.drew(h:Fr M a b):Fr M a b.drew:=⟨h.os,h.tape,h.output,h.size,h.block⟩
theorem Fr.drewN(h:Fr M a b)(n:Nat):Fr M a (b.drewN n):=⟨h.os,h.tape,h.output,h.size,h.block⟩
theorem Fr.alloc(h:Fr M a b)(o:Obj):Fr M a (b.alloc o):=
 ⟨h.os,h.tape,h.output,by have:=h.size;simp;omega,fun k aj hn=>(Below.heap_alloc b o k (Nat.lt_of_lt_of_le aj h.size)).trans (h.block k aj hn)⟩
theorem Fr.setCell(h:Fr M a b){p:Addr}(hp:M p.block∨a.heap.size≤p.block)(v:Value):Fr M a (b.setCell p v):=by
 refine⟨h.os,h.tape,h.output,by simpa using h.size,fun k aj hn=>?_⟩;have:k≠p.block:=by
  rintro rfl;rcases hp with hp|hp
  ·exact hn hp
  ·omega
 rw[Below.heap_setCell _ _ _ _ this];exact h.block k aj hn
theorem Fr.eU(h:Fr M a b)(k:Below a.heap.size b c):Fr M a c:=
 ⟨k.os.trans h.os,k.tape.trans h.tape,k.output.trans h.output,Nat.le_trans h.size k.size,fun i al hn=>(k.block i al).trans (h.block i al hn)⟩
theorem Fr.grown{row:Option Nat}(h:Fr M a b)(aY:b.grownBy c row)(a9:∀g,row=some g→M g∨a.heap.size≤g):Fr M a c:=by
 refine⟨aY.os.trans h.os,aY.tape.trans h.tape,aY.output.trans h.output,Nat.le_trans h.size aY.size,fun k aj hn=>?_⟩;refine(aY.block k (Nat.lt_of_lt_of_le aj h.size) fun e=>?_).trans (h.block k aj hn);rcases a9 k e.symm with ac|ac
 ·exact hn ac
 ·omega
theorem Fr.cell(h:Fr M a b){k j:Nat}(aj:k<a.heap.size)(hn:¬M k):b.cell? ⟨k,j,none⟩=a.cell? ⟨k,j,none⟩:=World.cell?_of_block (h.block k aj hn)
theorem Fr.frozen(h:Fr M a b){k j:Nat}(aj:k<a.heap.size)(hn:¬M k):b.frozen? ⟨k,j,none⟩=a.frozen? ⟨k,j,none⟩:=by
 simp only[World.frozen?,h.block k aj hn]
theorem Fr.two(h:Fr M a b):(∀k j,k<a.heap.size→¬M k→b.cell? ⟨k,j,none⟩=a.cell? ⟨k,j,none⟩)∧(∀k j,k<a.heap.size→¬M k→b.frozen? ⟨k,j,none⟩=a.frozen? ⟨k,j,none⟩):=
 ⟨fun _ _ aj hn=>h.cell aj hn,fun _ _ aj hn=>h.frozen aj hn⟩
theorem Fr.tG(h:Ext a b):(∀k j,k<a.heap.size→b.cell? ⟨k,j,none⟩=a.cell? ⟨k,j,none⟩)∧(∀k j,k<a.heap.size→b.frozen? ⟨k,j,none⟩=a.frozen? ⟨k,j,none⟩):=
 ⟨fun _ _ aj=>h.cell aj (fun h=>h),fun _ _ aj=>h.frozen aj (fun h=>h)⟩
theorem Fr.twod(h:Fr M a.drew b):(∀k j,k<a.heap.size→¬M k→b.cell? ⟨k,j,none⟩=a.cell? ⟨k,j,none⟩)∧(∀k j,k<a.heap.size→¬M k→b.frozen? ⟨k,j,none⟩=a.frozen? ⟨k,j,none⟩):=
 ⟨fun _ _ aj hn=>h.cell aj hn,fun _ _ aj hn=>h.frozen aj hn⟩
theorem Fr.HH(h:Ext a.drew b):(∀k j,k<a.heap.size→b.cell? ⟨k,j,none⟩=a.cell? ⟨k,j,none⟩)∧(∀k j,k<a.heap.size→b.frozen? ⟨k,j,none⟩=a.frozen? ⟨k,j,none⟩):=
 ⟨fun _ _ aj=>h.cell aj (fun h=>h),fun _ _ aj=>h.frozen aj (fun h=>h)⟩
theorem Fr.jy(h:Ext a.drew.drew b):(∀k j,k<a.heap.size→b.cell? ⟨k,j,none⟩=a.cell? ⟨k,j,none⟩)∧(∀k j,k<a.heap.size→b.frozen? ⟨k,j,none⟩=a.frozen? ⟨k,j,none⟩):=
 ⟨fun _ _ aj=>h.cell aj (fun h=>h),fun _ _ aj=>h.frozen aj (fun h=>h)⟩
theorem Fr.JL(h:Fr M a.drew.drew b):(∀k j,k<a.heap.size→¬M k→b.cell? ⟨k,j,none⟩=a.cell? ⟨k,j,none⟩)∧(∀k j,k<a.heap.size→¬M k→b.frozen? ⟨k,j,none⟩=a.frozen? ⟨k,j,none⟩):=
 ⟨fun _ _ aj hn=>h.cell aj hn,fun _ _ aj hn=>h.frozen aj hn⟩
theorem Fr.aF(h:Fr M a.drew b):Fr M a b:=⟨h.os,h.tape,h.output,h.size,h.block⟩
end
abbrev off(M:Nat→Prop)(w:World):Nat→Prop:=fun b=>b<w.heap.size∧¬M b
section
variable {M:Nat→Prop} {w ab:World}
theorem uH(h:Fr M w ab):∀b,off M w b→off M ab b:=fun _ O=>⟨Nat.lt_of_lt_of_le O.1 h.size,O.2⟩
theorem D.cS{d:D}{cs:List Value}(h:d.rep w (off M w) cs)(O:Fr M w ab):d.rep ab (off M ab) cs:=
 D.aK (uH O) _ _ (D.aP (fun b ap=>O.block b ap.1 ap.2) _ _ h)
theorem Sl.cS{A:Mk}{n:Nat}{l:List D}(h:Sl w (off M w) A n l)(O:Fr M w ab):Sl ab (off M ab) A n l:=
 (h.ak (fun b ap=>O.block b ap.1 ap.2)).mono (uH O)
end
def ao(w:World)(g:Nat)(t:TypeId)(cs:Array Value):Prop:=w.heap[g]?=some (.cells cs t (0,0))
section
variable {w ab:World} {g:Nat} {t:TypeId} {cs:Array Value} {M:Nat→Prop}
theorem ao.lt(h:ao w g t cs):g<w.heap.size:=by
 rcases Nat.lt_or_ge g w.heap.size with ap|a6
 ·exact ap
 ·unfold ao at h;rw[Array.getElem?_eq_none a6] at h;cases h
theorem ao.cell(h:ao w g t cs)(i:Nat):w.cell? ⟨g,i,none⟩=cs[i]?:=cell_of_row w g i cs t (0,0) h
theorem ao.frozen(h:ao w g t cs)(i:Nat):w.frozen? ⟨g,i,none⟩=false:=by
 unfold ao at h;simp[World.frozen?,h]
theorem ao.two(h:ao w g t cs):(∀i,w.cell? ⟨g,i,none⟩=cs[i]?)∧(∀i,w.frozen? ⟨g,i,none⟩=false)∧g<w.heap.size:=⟨h.cell,h.frozen,h.lt⟩
theorem ao.new(w:World)(t:TypeId)(cs:Array Value):ao (w.alloc (.cells cs t)) w.heap.size t cs:=heap_alloc_new w _
theorem ao.gA(w:World)(t:TypeId)(cs:Array Value)(aY:g=w.heap.size):ao (w.alloc (.cells cs t)) g t cs:=by
 subst aY;exact heap_alloc_new w _
theorem ao.drew(h:ao w g t cs):ao w.drew g t cs:=h
theorem ao.alloc(h:ao w g t cs)(o:Obj):ao (w.alloc o) g t cs:=(Below.heap_alloc w o g h.lt).trans h
theorem ao.aJ(h:ao w g t cs)(i:Nat)(u:Value):ao (w.setCell ⟨g,i,none⟩ u) g t (cs.setIfInBounds i u):=by
 unfold ao at h ⊢;simp[World.setCell,Array.getElem?_modify,h]
theorem ao.J1(h:ao w g t cs){p:Addr}(hp:g≠p.block)(u:Value):ao (w.setCell p u) g t cs:=(Below.heap_setCell w p u g hp).trans h
theorem ao.below{B:Nat}(h:ao w g t cs)(O:Below B w ab)(aY:g<B):ao ab g t cs:=(O.block g aY).trans h
theorem ao.on(h:ao w g t cs)(O:Fr M w ab)(aY:¬M g):ao ab g t cs:=(O.block g h.lt aY).trans h
theorem ao.aj(h:ao w g t cs)(O:Ext w ab):ao ab g t cs:=(O.block g h.lt fun h=>h).trans h
theorem ao.grown{row:Option Nat}(h:ao w g t cs)(O:w.grownBy ab row)(aY:some g≠row):ao ab g t cs:=(O.block g h.lt aY).trans h
end
theorem PU:(∀(t:Array Value) (d:List Deferred) (i:Nat) (v:Value),Act.put ⟨t,d⟩ (some i) v=⟨t.setIfInBounds i v,d⟩)∧(∀(l:List Value) (i:Nat) (v:Value),l.toArray.setIfInBounds i v=(l.set i v).toArray)∧(∀(x v:Value) (l:List Value),(x::l).set 0 v=v::l)∧(∀(x v:Value) (l:List Value) (i:Nat),(x::l).set (i+1) v=x::l.set i v)∧
  (∀(l:List Oper) (i:Nat) (h:i<l.toArray.size),l.toArray[i]'h=l[i]'(by simpa using h))∧(∀(x:Oper) (l:List Oper) (h:0<(x::l).length),(x::l)[0]'h=x)∧(∀(x:Oper) (l:List Oper) (i:Nat) (h:i+1<(x::l).length),(x::l)[i+1]'h=l[i]'(by simpa using h)):=
 ⟨fun _ _ _ _=>rfl,fun _ _ _=>by simp,fun _ _ _=>rfl,fun _ _ _ _=>rfl,fun _ _ _=>by simp,fun _ _ _=>rfl,fun _ _ _ _=>rfl⟩
section
variable {P:Program} {ops:Array Oper} {Q:Exit→Act→World→Prop} {R:World→World→Prop} {M:Nat→Prop} {tails:List Nat} {i:Nat} {o:Oper} {v:Value} {a r:Act} {w:World}
theorem pf{rest:List (Nat×Nat)}(h:b2 P ops Q R rest r w)(al:ops[i]?=some o:=by rfl)(hw:Region.wanted o (yielded ops a.tmps)=true:=by rfl)(bG:∀V,(execOp a.eval o).run P V=.ok (.value v) V:=by intro V;(go_simp<;>with_reducible rfl))(br:a.put o.dst v=r:=by (simp only[PU];rfl)) :
  b2 P ops Q R ((i,3)::rest) a w:=bp al hw bG (br▸h)
theorem tf{rest:PT}(h:cR P ops Q R tails rest r w)(al:ops[i]?=some o:=by rfl)(hw:Region.wanted o (yielded ops a.tmps)=true:=by rfl)(bG:∀V,(execOp a.eval o).run P V=.ok (.value v) V:=by intro V;(go_simp<;>with_reducible rfl))(br:a.put o.dst v=r:=by (simp only[PU];rfl)) :
  cR P ops Q R tails (.free i rest) a w:=lJ al hw bG (br▸h)
theorem ph{rest:List (Nat×Nat)}(h:b2 P ops Q R rest r w)(al:ops[i]?=some o:=by rfl)(hw:Region.wanted o (yielded ops a.tmps)=true:=by rfl)(bG:∀V,R w V→(execOp a.eval o).run P V=.ok (.value v) V:=by intro V hV;obtain⟨hVc,hVf⟩:=Fr.HH hV;(go_simp<;>with_reducible rfl))(br:a.put o.dst v=r:=by (simp only[PU];rfl)) :
  b2 P ops Q R ((i,0)::rest) a w:=bO al hw bG (br▸h)
theorem th{rest:PT}(h:cR P ops Q R tails rest r w)(al:ops[i]?=some o:=by rfl)(hw:Region.wanted o (yielded ops a.tmps)=true:=by rfl)(bG:∀V,R w V→(execOp a.eval o).run P V=.ok (.value v) V:=by intro V hV;obtain⟨hVc,hVf⟩:=Fr.HH hV;(go_simp<;>with_reducible rfl))(br:a.put o.dst v=r:=by (simp only[PU];rfl)) :
  cR P ops Q R tails (.held i rest) a w:=cx al hw bG (br▸h)
theorem K4{rest:List (Nat×Nat)}(h:b2 P ops Q R rest r w)(al:ops[i]?=some o:=by rfl)(hw:Region.wanted o (yielded ops a.tmps)=true:=by rfl)(bG:∀V,R w V→(execOp a.eval o).run P V=.ok (.value v) V:=by intro V hV;obtain⟨hVc,hVf⟩:=Fr.tG hV;(go_simp<;>with_reducible rfl))(br:a.put o.dst v=r:=by (simp only[PU];rfl)) :
  b2 P ops Q R ((i,0)::rest) a w:=bO al hw bG (br▸h)
theorem oG{rest:List (Nat×Nat)}(h:b2 P ops Q R rest r w)(al:ops[i]?=some o:=by rfl)(hw:Region.wanted o (yielded ops a.tmps)=true:=by rfl)(bG:∀V,R w V→(execOp a.eval o).run P V=.ok (.value v) V:=by intro V hV;obtain⟨hVc,hVf⟩:=Fr.twod hV;(go_simp<;>with_reducible rfl))(br:a.put o.dst v=r:=by (simp only[PU];rfl)) :
  b2 P ops Q R ((i,0)::rest) a w:=bO al hw bG (br▸h)
theorem oV{rest:PT}(h:cR P ops Q R tails rest r w)(al:ops[i]?=some o:=by rfl)(hw:Region.wanted o (yielded ops a.tmps)=true:=by rfl)(bG:∀V,R w V→(execOp a.eval o).run P V=.ok (.value v) V:=by intro V hV;obtain⟨hVc,hVf⟩:=Fr.twod hV;(go_simp<;>with_reducible rfl))(br:a.put o.dst v=r:=by (simp only[PU];rfl)) :
  cR P ops Q R tails (.held i rest) a w:=cx al hw bG (br▸h)
theorem K5{rest:List (Nat×Nat)}(h:b2 P ops Q R rest r w)(al:ops[i]?=some o:=by rfl)(hw:Region.wanted o (yielded ops a.tmps)=true:=by rfl)(bG:∀V,R w V→(execOp a.eval o).run P V=.ok (.value v) V:=by intro V hV;obtain⟨hVc,hVf⟩:=Fr.two hV;(go_simp<;>with_reducible rfl))(br:a.put o.dst v=r:=by (simp only[PU];rfl)) :
  b2 P ops Q R ((i,0)::rest) a w:=bO al hw bG (br▸h)
theorem KJ{rest:PT}(h:cR P ops Q R tails rest r w)(al:ops[i]?=some o:=by rfl)(hw:Region.wanted o (yielded ops a.tmps)=true:=by rfl)(bG:∀V,R w V→(execOp a.eval o).run P V=.ok (.value v) V:=by intro V hV;obtain⟨hVc,hVf⟩:=Fr.two hV;(go_simp<;>with_reducible rfl))(br:a.put o.dst v=r:=by (simp only[PU];rfl)) :
  cR P ops Q R tails (.held i rest) a w:=cx al hw bG (br▸h)
theorem Ge{rest:List (Nat×Nat)}(h:b2 P ops Q R rest r w)(al:ops[i]?=some o:=by rfl)(hw:Region.wanted o (yielded ops a.tmps)=true:=by rfl)(bG:∀V,R w V→(execOp a.eval o).run P V=.ok (.value v) V:=by intro V hV;obtain⟨hVc,hVf⟩:=Fr.JL hV;(go_simp<;>with_reducible rfl))(br:a.put o.dst v=r:=by (simp only[PU];rfl)) :
  b2 P ops Q R ((i,0)::rest) a w:=bO al hw bG (br▸h)
theorem ry{ab:World}{rest:List (Nat×Nat)}{M:Nat→Prop}(h:b2 P ops Q (Fr M) rest r ab)(al:ops[i]?=some o:=by rfl)(hx:∀K:Act→World→Prop,K r ab→if Region.wanted o (yielded ops a.tmps)=true then o.wp P a w K Q else K (a.put o.dst undef) w:=by (intro K hK;go_simp;(try simp only[PU] at hK ⊢);exact hK))(cB:Fr M w ab:=by exact(Fr.refl _ _).alloc _) :
  b2 P ops Q (Fr M) ((i,1)::rest) a w:=aI al fun K hK=>hx K (hK _ _ cB h)
theorem eu{ab:World}{p:PT}{M:Nat→Prop}(h:cR P ops Q (Fr M) tails p r ab)(al:ops[i]?=some o:=by rfl)(hx:∀K:Act→World→Prop,K r ab→if Region.wanted o (yielded ops a.tmps)=true then o.wp P a w K Q else K (a.put o.dst undef) w:=by (intro K hK;go_simp;(try simp only[PU] at hK ⊢);exact hK))(cB:Fr M w ab:=by exact(Fr.refl _ _).alloc _)(hT:tails.contains i=false:=by rfl) :
  oN P ops Q (Fr M) tails i p a w:=aD al (fun K hK=>hx K (hK _ _ cB h)) hT
end
section
variable {P:Program} {ops:Array Oper} {Q:Exit→Act→World→Prop} {M:Nat→Prop} {id:Nat} {a:Act} {w:World}
theorem eK(M:Nat→Prop)(e:List (Nat×Nat))(h:b2 P ops Q (Fr M) e a w.drew)(ac:P.follows .mixedOrders=true:=by kernel_rfl)(ax:wX .any ops e=true:=by kernel_rfl)(bv:∀c a d v w,Q (.panic c) (a.put d v) w→Q (.panic c) a w:=by (intro _ _ d _ _ h;first|(cases d<;>exact h)|exact hQ0 _ _ _ _ _ h)):(Code.region id ops true).wp P Q a w:=
 k7 (Fr M) e ac ax (Fr.refl _) (fun _ _ _ h k=>h.trans k) bv h
theorem tw(M:Nat→Prop)(tails:List Nat)(p:PT)(h:cR P ops Q (Fr M) tails p a w.drew)(ac:P.follows .mixedOrders=true:=by kernel_rfl)(ax:xl .any ops tails p=true:=by kernel_rfl)(bv:∀c a d v w,Q (.panic c) (a.put d v) w→Q (.panic c) a w:=by (intro _ _ d _ _ h;first|(cases d<;>exact h)|exact hQ0 _ _ _ _ _ h)):(Code.region id ops true).wp P Q a w:=
 q9 (Fr M) tails p ac ax (Fr.refl _) (fun _ _ _ h k=>h.trans k) bv h
end
theorem dP{K:Act→World→Prop}{c:World→Prop}{b:Act→World→Prop}{a r:Act}{ab:World}(hK:∀r ab,c ab→b r ab→K r ab)(cB:c ab)(h:b r ab)(e:a=r:=by ((try simp only[PU]);rfl)):K a ab:=hK _ _ cB (e▸h)
theorem dU{K:Act→World→Prop}{b:Act→World→Prop}{a r:Act}{ab:World}(hK:∀r ab,b r ab→K r ab)(h:b r ab)(e:a=r:=by ((try simp only[PU]);rfl)):K a ab:=hK _ _ (e▸h)
end Go.Proofs.YtflecliffjbleaaGreat
