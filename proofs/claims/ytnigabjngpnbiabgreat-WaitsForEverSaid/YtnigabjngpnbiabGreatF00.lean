/- Part 0 of the proof. No condition of its own. -/
import Derived.Deep.Draws
import Derived.Maps.AppendAt
import Derived.OrdersHeld
import Derived.StillTail
import Derived.Test.YtnigabjngpnbiabGreatRows
import Derived.WalkKit
import Derived.WalkLawsBesides
import Derived.WalkSpells
namespace Go.Proofs.YtnigabjngpnbiabGreat
open Go.RowKit Go.Proofs.Tryz
set_option maxRecDepth 1000000
set_option maxHeartbeats 25600000
set_option linter.unusedVariables false
abbrev NH:=Option Addr
abbrev NI:=List ByteArray
def NJ(p:Prop):Prop:=p
theorem NJ.o{p:Prop}(h:NJ p):p:=h
section
variable {P:Program} {ops:Array Oper} {Q:Exit→Act→World→Prop} {md:Region.Mode} {R:World→World→Prop} {T:Nat→Bool}
def kv(P:Program)(md:Region.Mode)(ops:Array Oper)(Q:Exit→Act→World→Prop)(R:World→World→Prop)(T:Nat→Bool):Nat→Array Bool→Act→World→Prop
 | 0,listed,a,w=>Region.ready md ops listed=[]∧Q .normal a w
 | fuel+1,listed,a,w=>
  (Region.ready md ops listed=[]→Q .normal a w)∧
  ∀i∈Region.ready md ops listed,wpOp P ops Q i (fun r ab=>(T i=true→R w ab)∧kv P md ops Q R T fuel (listed.setIfInBounds i true) r ab) a w
theorem mK:∀(fuel:Nat) (listed:Array Bool) (a:Act) (w:World),kv P md ops Q R T fuel listed a w→wpAny P md ops Q fuel listed a w
 | 0,_,_,_,h=>h
 | fuel+1,_,_,_,h=>⟨h.1,fun i aN=>wpOp_mono (fun r ab q=>mK fuel _ r ab q.2) (h.2 i aN)⟩
def j8(md:Region.Mode)(ops:Array Oper)(listed:Array Bool):Prop:=
 ∀j m,ops[j]?=some m→listed.getD j false=true→∀e∈m.after,Region.binds md e=true→listed.getD e.on false=true
theorem j8.set{i:Nat}{listed:Array Bool}(inv:j8 md ops listed)(aN:i∈Region.ready md ops listed):j8 md ops (listed.setIfInBounds i true):=by
 obtain⟨_,s,cm,y⟩:=mem_ready.1 aN;intro j m bi hl e he O;by_cases v:i=j
 ·subst v;have:m=s:=Option.some.inj (bi.symm.trans cm);subst this;exact getD_set_true (y e he O)
 ·rw[getD_set_ne false v] at hl;exact getD_set_true (inv j m bi hl e he O)
def Ey(md:Region.Mode)(ops:Array Oper):Nat→Nat→Nat→Bool
 | 0,_,_=>false
 | f+1,j,i=>match ops[j]? with
  | none=>false
  | some m=>m.after.any fun e=>Region.binds md e && (e.on == i || Ey md ops f e.on i)
theorem Ez{i:Nat}{listed:Array Bool}(inv:j8 md ops listed):∀(f j:Nat),Ey md ops f j i=true→
  (∃m,ops[j]?=some m∧∀e∈m.after,Region.binds md e=true→listed.getD e.on false=true)→listed.getD i false=true:=by
 intro f
 induction f with
 | zero=>intro j h;simp[Ey] at h
 | succ f aq=>
  intro j h bi;obtain⟨m,bD,y⟩:=bi;simp only[Ey,bD] at h;obtain⟨e,he,O⟩:=Array.any_eq_true'.1 h;simp only[Bool.and_eq_true,Bool.or_eq_true,beq_iff_eq] at O;have hl:=y e he O.1;rcases O.2 with az|az
  ·rw[←az];exact hl
  ·refine aq e.on az ?_
   cases aj:ops[e.on]? with
   | none=>cases f<;>simp[Ey,aj] at az
   | some ok=>exact⟨ok,rfl,fun l a aZ=>inv e.on ok aj hl l a aZ⟩
theorem iy{i:Nat}{s:Oper}{v:Value}{U:World→World→Prop}(t:∀a b c,R a b→U b c→U a c)(l:∀a,R a a)(C:∀a,U a a)(aN:ops[i]?=some s)(g:∀(j:Nat) (o:Oper) cs b,ops[j]?=some o→o.op≠.select cs b)
  (hQ:∀c a w,Q (.panic c) (a.put s.dst v) w→Q (.panic c) a w) (hT:(∀a b,U a b)∨∀j,T j=false→∃f,Ey md ops f j i=true) :
  ∀(fuel:Nat) (listed:Array Bool) (a:Act) (w:World),j8 md ops listed→
   (∀j m,ops[j]?=some m→j≠i→listed.getD j true=false→(∀e∈m.after,Region.binds md e=true→e.on≠i)→s.apart ops m=true)→
   i∈Region.ready md ops listed→YieldsIf P ops (U w) s v a→
   kv P md ops Q R T fuel (listed.setIfInBounds i true) (a.put s.dst v) w→kv P md ops Q R T (fuel+1) listed a w:=by
 intro fuel
 induction fuel with
 | zero=>
  intro listed a w _ _ ba bb H;refine⟨fun h=>(by rw[h] at ba;cases ba),fun j bi=>?_⟩;by_cases z:j=i
  ·subst z;exact bb.wpOp aN (C w) ⟨fun _=>l w,H⟩
  ·have:=ready_mono bi z;rw[H.1] at this
   cases this
 | succ fuel aq=>
  intro listed a w inv Z ba bb H;refine⟨fun h=>(by rw[h] at ba;cases ba),fun j bi=>?_⟩;by_cases z:j=i
  ·subst z;exact bb.wpOp aN (C w) ⟨fun _=>l w,H⟩
  ·have ac:=H.2 j (ready_mono bi z);obtain⟨A,m,x,y⟩:=mem_ready.1 bi;have p:=(mem_ready.1 ba).1;have B:∀e∈m.after,Region.binds md e=true→e.on≠i:=fun e he O heq=>by
    have ac:=y e he O;have h0:=p;rw[heq] at ac;rcases Nat.lt_or_ge i listed.size with q|q
    ·simp[q] at h0 ac;rw[h0] at ac;cases ac
    ·simp[Array.getElem?_eq_none q] at ac
   have n:(∀a b,U a b)∨T j=true:=by
    rcases hT with hT|hT
    ·exact .inl hT
    refine .inr ?_
    cases n:T j with
    | true=>rfl
    | false=>
     obtain⟨f,J⟩:=hT j n;have:=Ez inv f j J ⟨m,x,y⟩;rcases Nat.lt_or_ge i listed.size with q|q
     ·simp[q] at p this;rw[p] at this;cases this
     ·simp[Array.getElem?_eq_none q] at this
   have az:=wpOp_putIf (S:=U w) x (Z j m x z A B) (fun cs b=>g i s cs b aN) (fun cs b=>g j m cs b x) hQ bb ac;have u:∀k ok,ops[k]?=some ok→k≠i→(listed.setIfInBounds j true).getD k true=false→
     (∀e∈ok.after,Region.binds md e=true→e.on≠i)→s.apart ops ok=true:=fun k ok aj E D bY=>by
    refine Z k ok aj E ?_ bY;by_cases aw:j=k
    ·subst aw;exact A
    ·rw[getD_set_ne true aw] at D;exact D
   refine wpOp_mono (fun r ab aV=>?_) az;have d:YieldsIf P ops (U ab) s v r:=aV.1.imp (fun⟨hw,bK⟩=>⟨hw,fun V hV=>bK V (n.elim (fun h=>h _ _) fun h=>t _ _ _ (aV.2.1 h) hV)⟩) id;refine⟨aV.2.1,aq (listed.setIfInBounds j true) r ab (inv.set bi) u (ready_mono ba (Ne.symm z)) d ?_⟩;rw[Array.setIfInBounds_comm _ _ z];exact aV.2.2
def ca(P:Program)(ops:Array Oper)(Q:Exit→Act→World→Prop)(R:World→World→Prop):List (Nat×Nat)→Act→World→Prop
 | [],a,w=>Q .normal a w
 | (i,0)::rest,a,w=>∃o v,ops[i]?=some o∧YieldsIf P ops (R w) o v a∧ca P ops Q R rest (a.put o.dst v) w
 | (i,3)::rest,a,w=>∃o v,ops[i]?=some o∧YieldsIf P ops (fun _=>True) o v a∧ca P ops Q R rest (a.put o.dst v) w
 | (i,k+1)::rest,a,w=>∃o,ops[i]?=some o∧∀K:Act→World→Prop,(∀r ab,(k=0→R w ab)→ca P ops Q R rest r ab→K r ab)→
   (if Region.wanted o (yielded ops a.tmps)=true then o.wp P a w K Q else K (a.put o.dst undef) w)
def l1(md:Region.Mode)(ops:Array Oper):List (Nat×Nat)→Array Bool→Bool
 | [],listed=>(Region.ready md ops listed).isEmpty
 | (i,0)::rest,listed=>Region.free md ops listed i && (Region.ready md ops listed).contains i && l1 md ops rest (listed.setIfInBounds i true)
 | (i,3)::rest,listed=>Region.free md ops listed i && (Region.ready md ops listed).contains i && l1 md ops rest (listed.setIfInBounds i true)
 | (i,_+1)::rest,listed=>(Region.ready md ops listed == [i]) && l1 md ops rest (listed.setIfInBounds i true)
def nv(e:List (Nat×Nat)):List Nat:=(e.filter fun p=>decide (2=p.2)).map (·.1)
def xB(md:Region.Mode)(ops:Array Oper)(e:List (Nat×Nat)):Bool:=
 Region.noSelect ops && (e.length == ops.size) && (e.all fun p=>decide (p.2≤3)) && (e.all fun p=>decide (p.2=1∨p.2=2∨p.2=3) || (nv e).all fun j=>Ey md ops ops.size j p.1) && l1 md ops e (Array.replicate ops.size false)
theorem jc(t:∀a b c,R a b→R b c→R a c)(l:∀a,R a a)(g:∀(j:Nat) (o:Oper) cs b,ops[j]?=some o→o.op≠.select cs b)
  (hQ:∀c a d v w,Q (.panic c) (a.put d v) w→Q (.panic c) a w) :
  ∀(e:List (Nat×Nat)) (listed:Array Bool) (a:Act) (w:World),j8 md ops listed→l1 md ops e listed=true→
   (∀p∈e,p.2=0→∀j,T j=false→∃f,Ey md ops f j p.1=true)→(∀p∈e,2=p.2→T p.1=false)→(∀p∈e,p.2≤3)→
   ca P ops Q R e a w→kv P md ops Q R T e.length listed a w
 | [],listed,a,w,_,aT,_,_,_,h=>⟨by simpa[l1] using aT,h⟩
 | (i,0)::rest,listed,a,w,inv,aT,h0,az,aV,h=>by
  obtain⟨o,v,aN,bb,h⟩:=h;simp only[l1,Bool.and_eq_true] at aT;have ba:i∈Region.ready md ops listed:=by simpa using aT.1.2
  exact iy (U:=R) t l l aN g (fun c a w=>hQ c a _ _ w) (.inr (h0 (i,0) (by simp) rfl)) rest.length listed a w inv (Region.free_spec aN aT.1.1) ba bb
   (jc t l g hQ rest _ _ _ (inv.set ba) aT.2 (fun p hp=>h0 p (by simp[hp])) (fun p hp=>az p (by simp[hp])) (fun p hp=>aV p (by simp[hp])) h)
 | (i,3)::rest,listed,a,w,inv,aT,h0,az,aV,h=>by
  obtain⟨o,v,aN,bb,h⟩:=h;simp only[l1,Bool.and_eq_true] at aT;have ba:i∈Region.ready md ops listed:=by simpa using aT.1.2
  exact iy (U:=fun _ _=>True) (fun _ _ _ _ _=>trivial) l (fun _=>trivial) aN g (fun c a w=>hQ c a _ _ w) (.inl fun _ _=>trivial) rest.length listed a w inv (Region.free_spec aN aT.1.1) ba bb
   (jc t l g hQ rest _ _ _ (inv.set ba) aT.2 (fun p hp=>h0 p (by simp[hp])) (fun p hp=>az p (by simp[hp])) (fun p hp=>aV p (by simp[hp])) h)
 | (i,1)::rest,listed,a,w,inv,aT,h0,az,aV,h=>by
  obtain⟨o,aN,h⟩:=h;simp only[l1,Bool.and_eq_true,beq_iff_eq] at aT;have ba:i∈Region.ready md ops listed:=by rw[aT.1];simp
  refine⟨fun h0=>(by rw[h0] at ba;cases ba),fun j bi=>?_⟩;rw[aT.1] at bi;have z:j=i:=by simpa using bi
  subst z;have s:=h (fun r ab=>(T j=true→R w ab)∧kv P md ops Q R T rest.length (listed.setIfInBounds j true) r ab) fun r ab cx hp=>
   ⟨fun hT=>cx rfl,jc t l g hQ rest _ _ _ (inv.set ba) aT.2 (fun p hp=>h0 p (by simp[hp])) (fun p hp=>az p (by simp[hp])) (fun p hp=>aV p (by simp[hp])) hp⟩
  unfold Go.wpOp;simp only[aN];split
  ·rename_i hw;rw[if_pos hw] at s;exact .inl s
  ·rename_i hw;rw[if_neg hw] at s
   exact s
 | (i,2)::rest,listed,a,w,inv,aT,h0,az,aV,h=>by
  obtain⟨o,aN,h⟩:=h;simp only[l1,Bool.and_eq_true,beq_iff_eq] at aT;have ba:i∈Region.ready md ops listed:=by rw[aT.1];simp
  refine⟨fun h0=>(by rw[h0] at ba;cases ba),fun j bi=>?_⟩;rw[aT.1] at bi;have z:j=i:=by simpa using bi
  subst z;have n:T j=false:=az (j,2) (by simp) rfl;have s:=h (fun r ab=>(T j=true→R w ab)∧kv P md ops Q R T rest.length (listed.setIfInBounds j true) r ab) fun r ab _ hp=>
   ⟨fun hT=>(by rw[n] at hT;cases hT),jc t l g hQ rest _ _ _ (inv.set ba) aT.2 (fun p hp=>h0 p (by simp[hp])) (fun p hp=>az p (by simp[hp])) (fun p hp=>aV p (by simp[hp])) hp⟩
  unfold Go.wpOp;simp only[aN];split
  ·rename_i hw;rw[if_pos hw] at s;exact .inl s
  ·rename_i hw;rw[if_neg hw] at s
   exact s
 | (i,k+4)::rest,listed,a,w,inv,aT,h0,az,aV,h=>absurd (aV (i,k+4) (by simp)) (by simp)
theorem ld(R:World→World→Prop)(e:List (Nat×Nat)){id:Nat}{a:Act}{w:World}(hm:P.follows .mixedOrders=true)(aT:xB .any ops e=true)
  (l:∀a,R a a) (t:∀a b c,R a b→R b c→R a c) (hQ:∀c a d v w,Q (.panic c) (a.put d v) w→Q (.panic c) a w)
  (h:ca P ops Q R e a w.drew):(Code.region id ops true).wp P Q a w:=by
 simp only[xB,Bool.and_eq_true,beq_iff_eq] at aT;obtain⟨⟨⟨⟨hs,hl⟩,aV⟩,ht⟩,hp⟩:=aT;refine wp_region_any hm (mK (R:=R) (T:=fun j=>!(nv e).contains j) _ _ _ _ ?_);rw[←hl];refine jc t l (Region.noSelect_spec hs) hQ e _ a _ (fun j m _ bi=>?_) (by rw[hl];exact hp) (fun p ew i j bi=>?_) (fun p ew f=>?_) (fun p ew=>?_) h
 ·rw[getD_replicate_false] at bi;cases bi
 ·have ac:=List.all_eq_true.1 ht p ew;rw[i] at ac;have g:j∈nv e:=by simpa using bi
  have az:((nv e).all fun j=>Ey .any ops ops.size j p.1)=true:=by simpa using ac
  exact⟨_,List.all_eq_true.1 az j g⟩
 ·have:p.1∈nv e:=List.mem_map.2 ⟨p,List.mem_filter.2 ⟨ew,by simpa using f⟩,rfl⟩;simpa using this
 ·exact List.all_eq_true.1 aV p ew |> of_decide_eq_true
theorem bS{i:Nat}{o:Oper}{v:Value}{rest:List (Nat×Nat)}{a:Act}{w:World}(aN:ops[i]?=some o)(hw:Region.wanted o (yielded ops a.tmps)=true)
  (bK:∀V,R w V→(execOp a.eval o).run P V=.ok (.value v) V) (h:ca P ops Q R rest (a.put o.dst v) w):ca P ops Q R ((i,0)::rest) a w:=
 ⟨o,v,aN,.inl ⟨hw,bK⟩,h⟩
theorem ha{i:Nat}{o:Oper}{rest:List (Nat×Nat)}{a:Act}{w:World}(aN:ops[i]?=some o)(hw:Region.wanted o (yielded ops a.tmps)=false)
  (h:ca P ops Q R rest (a.put o.dst undef) w):ca P ops Q R ((i,0)::rest) a w:=
 ⟨o,undef,aN,.inr ⟨hw,rfl⟩,h⟩
theorem bt{i:Nat}{o:Oper}{v:Value}{rest:List (Nat×Nat)}{a:Act}{w:World}(aN:ops[i]?=some o)(hw:Region.wanted o (yielded ops a.tmps)=true)
  (bK:∀V,(execOp a.eval o).run P V=.ok (.value v) V) (h:ca P ops Q R rest (a.put o.dst v) w):ca P ops Q R ((i,3)::rest) a w:=
 ⟨o,v,aN,.inl ⟨hw,fun V _=>bK V⟩,h⟩
theorem cN{i:Nat}{o:Oper}{rest:List (Nat×Nat)}{a:Act}{w:World}(aN:ops[i]?=some o)(hw:Region.wanted o (yielded ops a.tmps)=false)
  (h:ca P ops Q R rest (a.put o.dst undef) w):ca P ops Q R ((i,3)::rest) a w:=
 ⟨o,undef,aN,.inr ⟨hw,rfl⟩,h⟩
theorem aE{i:Nat}{o:Oper}{rest:List (Nat×Nat)}{a:Act}{w:World}(aN:ops[i]?=some o)
  (h:∀K:Act→World→Prop,(∀r ab,R w ab→ca P ops Q R rest r ab→K r ab)→if Region.wanted o (yielded ops a.tmps)=true then o.wp P a w K Q else K (a.put o.dst undef) w) :
  ca P ops Q R ((i,1)::rest) a w:=
 ⟨o,aN,fun K hK=>h K fun r ab cx hp=>hK r ab (fun _=>cx) hp⟩
theorem au{i:Nat}{o:Oper}{rest:List (Nat×Nat)}{a:Act}{w:World}(aN:ops[i]?=some o)
  (h:∀K:Act→World→Prop,(∀r ab,ca P ops Q R rest r ab→K r ab)→if Region.wanted o (yielded ops a.tmps)=true then o.wp P a w K Q else K (a.put o.dst undef) w) :
  ca P ops Q R ((i,2)::rest) a w:=
 ⟨o,aN,fun K hK=>h K fun r ab hp=>hK r ab (fun h=>absurd h (by decide)) hp⟩
theorem aG{a:Act}{w:World}(h:Q .normal a w):ca P ops Q R [] a w:=h
end
inductive PT where
 | stop
 | free (i:Nat) (rest:PT)
 | held (i:Nat) (rest:PT)
 | pick (is:List Nat) (f:Nat→PT)
section
variable {P:Program} {ops:Array Oper} {Q:Exit→Act→World→Prop} {md:Region.Mode} {R:World→World→Prop}
def cY(P:Program)(ops:Array Oper)(Q:Exit→Act→World→Prop)(R:World→World→Prop)(tails:List Nat):PT→Act→World→Prop
 | .stop,a,w=>Q .normal a w
 | .free i rest,a,w=>∃o v,ops[i]?=some o∧YieldsIf P ops (fun _=>True) o v a∧cY P ops Q R tails rest (a.put o.dst v) w
 | .held i rest,a,w=>∃o v,ops[i]?=some o∧YieldsIf P ops (R w) o v a∧cY P ops Q R tails rest (a.put o.dst v) w
 | .pick is f,a,w=>∀i∈is,∃o,ops[i]?=some o∧∀K:Act→World→Prop,(∀r ab,(tails.contains i=false→R w ab)→cY P ops Q R tails (f i) r ab→K r ab)→
   (if Region.wanted o (yielded ops a.tmps)=true then o.wp P a w K Q else K (a.put o.dst undef) w)
def nw(md:Region.Mode)(ops:Array Oper):PT→Nat→Array Bool→Bool
 | .stop,n,listed=>n == 0 && (Region.ready md ops listed).isEmpty
 | .free i rest,n,listed=>decide (0<n) && (Region.free md ops listed i && (Region.ready md ops listed).contains i && nw md ops rest (n - 1) (listed.setIfInBounds i true))
 | .held i rest,n,listed=>decide (0<n) && (Region.free md ops listed i && (Region.ready md ops listed).contains i && nw md ops rest (n - 1) (listed.setIfInBounds i true))
 | .pick is f,n,listed=>decide (0<n) && (!is.isEmpty && (Region.ready md ops listed == is) && is.all fun i=>nw md ops (f i) (n - 1) (listed.setIfInBounds i true))
def PT.oH:PT→List Nat
 | .stop=>[]
 | .free _ rest=>rest.oH
 | .held i rest=>i::rest.oH
 | .pick is f=>is.flatMap fun i=>(f i).oH
def x0(md:Region.Mode)(ops:Array Oper)(tails:List Nat)(p:PT):Bool:=
 Region.noSelect ops && (p.oH.all fun i=>tails.all fun j=>Ey md ops ops.size j i) && nw md ops p ops.size (Array.replicate ops.size false)
theorem x5(tails:List Nat)(t:∀a b c,R a b→R b c→R a c)(l:∀a,R a a)(g:∀(j:Nat) (o:Oper) cs b,ops[j]?=some o→o.op≠.select cs b)
  (hQ:∀c a d v w,Q (.panic c) (a.put d v) w→Q (.panic c) a w) :
  ∀(p:PT) (n:Nat) (listed:Array Bool) (a:Act) (w:World),j8 md ops listed→nw md ops p n listed=true→
   (∀i∈p.oH,∀j∈tails,∃f,Ey md ops f j i=true)→cY P ops Q R tails p a w→kv P md ops Q R (fun j=>!tails.contains j) n listed a w:=by
 intro p
 induction p with
 | stop=>
  intro n listed a w _ aT _ h;simp only[nw,Bool.and_eq_true,beq_iff_eq] at aT;obtain⟨rfl,aT⟩:=aT
  exact⟨by simpa using aT,h⟩
 | free i rest aq=>
  intro n listed a w inv aT ag h;obtain⟨o,v,aN,bb,h⟩:=h;simp only[nw,Bool.and_eq_true,decide_eq_true_eq] at aT;obtain⟨hn,⟨J,hc⟩,aT⟩:=aT;obtain⟨m,rfl⟩:∃m,n=m+1:=⟨n - 1,by omega⟩
  have ba:i∈Region.ready md ops listed:=by simpa using hc
  exact iy (U:=fun _ _=>True) (fun _ _ _ _ _=>trivial) l (fun _=>trivial) aN g (fun c a w=>hQ c a _ _ w) (.inl fun _ _=>trivial) m listed a w inv (Region.free_spec aN J) ba bb
   (aq m _ _ _ (inv.set ba) aT ag h)
 | held i rest aq=>
  intro n listed a w inv aT ag h;obtain⟨o,v,aN,bb,h⟩:=h;simp only[nw,Bool.and_eq_true,decide_eq_true_eq] at aT;obtain⟨hn,⟨J,hc⟩,aT⟩:=aT;obtain⟨m,rfl⟩:∃m,n=m+1:=⟨n - 1,by omega⟩
  have ba:i∈Region.ready md ops listed:=by simpa using hc
  refine iy (U:=R) t l l aN g (fun c a w=>hQ c a _ _ w) (.inr fun j bi=>ag i (by simp[PT.oH]) j (by simpa using bi)) m listed a w inv (Region.free_spec aN J) ba bb
   (aq m _ _ _ (inv.set ba) aT (fun i aN=>ag i (by simp[PT.oH,aN])) h)
 | pick is f aq=>
  intro n listed a w inv aT ag h;simp only[nw,Bool.and_eq_true,decide_eq_true_eq,beq_iff_eq] at aT;obtain⟨hn,⟨he,ba⟩,aT⟩:=aT;obtain⟨m,rfl⟩:∃m,n=m+1:=⟨n - 1,by omega⟩
  by_cases bl:is=[]
  ·subst bl;simp at he
  ·refine⟨fun h0=>absurd (by rw[←ba];exact h0) bl,fun j bi=>?_⟩;have e:=bi;rw[ba] at bi;obtain⟨o,aN,h⟩:=h j bi;have s:=h (fun r ab=>((fun j=>!tails.contains j) j=true→R w ab)∧kv P md ops Q R (fun j=>!tails.contains j) m (listed.setIfInBounds j true) r ab) fun r ab cx hp=>
    ⟨fun hT=>cx (by simpa using hT),aq j m _ _ _ (inv.set e) (by simpa using List.all_eq_true.1 aT j bi) (fun i aN=>ag i (by simp only[PT.oH,List.mem_flatMap];exact⟨j,bi,aN⟩)) hp⟩
   unfold Go.wpOp;simp only[aN];split
   ·rename_i hw;rw[if_pos hw] at s;exact .inl s
   ·rename_i hw;rw[if_neg hw] at s;exact s
theorem rB(R:World→World→Prop)(tails:List Nat)(p:PT){id:Nat}{a:Act}{w:World}(hm:P.follows .mixedOrders=true)(aT:x0 .any ops tails p=true)
  (l:∀a,R a a) (t:∀a b c,R a b→R b c→R a c) (hQ:∀c a d v w,Q (.panic c) (a.put d v) w→Q (.panic c) a w)
  (h:cY P ops Q R tails p a w.drew):(Code.region id ops true).wp P Q a w:=by
 simp only[x0,Bool.and_eq_true] at aT;obtain⟨⟨hs,bg⟩,hp⟩:=aT;refine wp_region_any hm (mK (R:=R) (T:=fun j=>!tails.contains j) _ _ _ _ ?_);refine x5 tails t l (Region.noSelect_spec hs) hQ p ops.size _ a _ (fun j m _ bi=>?_) hp (fun i aN j bi=>?_) h
 ·rw[getD_replicate_false] at bi;cases bi
 ·have ac:=List.all_eq_true.1 bg i aN;exact⟨_,List.all_eq_true.1 ac j bi⟩
variable {tails:List Nat}
theorem cB{i:Nat}{o:Oper}{v:Value}{rest:PT}{a:Act}{w:World}(aN:ops[i]?=some o)(hw:Region.wanted o (yielded ops a.tmps)=true)
  (bK:∀V,R w V→(execOp a.eval o).run P V=.ok (.value v) V) (h:cY P ops Q R tails rest (a.put o.dst v) w):cY P ops Q R tails (.held i rest) a w:=
 ⟨o,v,aN,.inl ⟨hw,bK⟩,h⟩
theorem lO{i:Nat}{o:Oper}{v:Value}{rest:PT}{a:Act}{w:World}(aN:ops[i]?=some o)(hw:Region.wanted o (yielded ops a.tmps)=true)
  (bK:∀V,(execOp a.eval o).run P V=.ok (.value v) V) (h:cY P ops Q R tails rest (a.put o.dst v) w):cY P ops Q R tails (.free i rest) a w:=
 ⟨o,v,aN,.inl ⟨hw,fun V _=>bK V⟩,h⟩
def oX(P:Program)(ops:Array Oper)(Q:Exit→Act→World→Prop)(R:World→World→Prop)(tails:List Nat)(i:Nat)(p:PT)(a:Act)(w:World):Prop:=
 ∃o,ops[i]?=some o∧∀K:Act→World→Prop,(∀r ab,(tails.contains i=false→R w ab)→cY P ops Q R tails p r ab→K r ab)→
   (if Region.wanted o (yielded ops a.tmps)=true then o.wp P a w K Q else K (a.put o.dst undef) w)
theorem aD{i:Nat}{o:Oper}{p:PT}{a:Act}{w:World}(aN:ops[i]?=some o)
  (h:∀K:Act→World→Prop,(∀r ab,R w ab→cY P ops Q R tails p r ab→K r ab)→if Region.wanted o (yielded ops a.tmps)=true then o.wp P a w K Q else K (a.put o.dst undef) w)
  (hT:tails.contains i=false):oX P ops Q R tails i p a w:=⟨o,aN,fun K hK=>h K fun r ab cx=>hK r ab fun _=>cx⟩
theorem bP{i:Nat}{o:Oper}{p:PT}{a:Act}{w:World}(aN:ops[i]?=some o)
  (h:∀K:Act→World→Prop,(∀r ab,cY P ops Q R tails p r ab→K r ab)→if Region.wanted o (yielded ops a.tmps)=true then o.wp P a w K Q else K (a.put o.dst undef) w)
  (hT:tails.contains i=true):oX P ops Q R tails i p a w:=⟨o,aN,fun K hK=>h K fun r ab hp=>hK r ab (fun h=>by rw[hT] at h;cases h) hp⟩
theorem aq{i:Nat}{f:Nat→PT}{a:Act}{w:World}(h:oX P ops Q R tails i (f i) a w):cY P ops Q R tails (.pick [i] f) a w:=fun j bi=>by
 have:j=i:=by simpa using bi
 subst this;exact h
theorem a2{i j:Nat}{f:Nat→PT}{a:Act}{w:World}(h:oX P ops Q R tails i (f i) a w)(az:oX P ops Q R tails j (f j) a w):cY P ops Q R tails (.pick [i,j] f) a w:=fun k aj=>by
 simp only[List.mem_cons,List.not_mem_nil,or_false] at aj;rcases aj with rfl|rfl
 ·exact h
 ·exact az
theorem cj{a:Act}{w:World}(h:Q .normal a w):cY P ops Q R tails .stop a w:=h
theorem lP{rest:PT}{aa:Nat→Act}{C:Nat→World→Prop}{G:Prop}(h:(∀g V,C g V→cY P ops Q R tails rest (aa g) V)→G)(key:∀g V,C g V→cY P ops Q R tails rest (aa g) V):G:=h key
end
theorem ae{p:Prop}(h:p):NJ p:=h
theorem Ff{a b:Int}{k:IntKind}(h:a=b):Value.int k a=Value.int k b:=by rw[h]
theorem ret_int{a b:Int}{k:IntKind}(h:a=b):Ending.returned (.int k a)=.returned (.int k b):=by rw[h]
theorem ret_bool{a b:Bool}(h:a=b):Ending.returned (.bool a)=.returned (.bool b):=by rw[h]
theorem aU{α:Type}{l:List α}{k:Nat}{x:α}(h:l[k]?=some x):l.take (k+1)=l.take k++[x]:=by
 rw[List.take_add_one,h];rfl
theorem G6(x y:Int):(if y > x then y else x)=max x y:=by
 by_cases h:x≤y<;>simp[Int.max_def,h]<;>omega
theorem G7(x y:Int):(if y<x then y else x)=min x y:=by
 by_cases h:x≤y<;>simp[Int.min_def,h]<;>omega
theorem gI(P:Program)(w:World)(a:Array TypeId)(t:TypeId)(k F:IntKind)(x y:Int):(Builtin.max_ a t #[.int k x,.int F y]).run P w=.ok (.int k (max x y)) w:=by
 rw[run_max_int2,G6]
theorem gJ(P:Program)(w:World)(a:Array TypeId)(t:TypeId)(k F:IntKind)(x y:Int):(Builtin.min_ a t #[.int k x,.int F y]).run P w=.ok (.int k (min x y)) w:=by
 rw[run_min_int2,G7]
theorem dN{B:Nat}{a w:World}(h:Below B a w)(n:Nat):Below B a (w.drewN n):=⟨h.os,h.tape,h.output,h.size,h.block⟩
def cp{α:Type}(E:World→Nat→α→List Value→Prop)(sz:Nat)(w:World)(B:Nat)(A:NH)(n:Nat)(l:List α):Prop:=
 l.length=n∧(0<n→∃b o,A=some ⟨b,o,none⟩∧b<B∧∀k x,l[k]?=some x→∃cs:List Value,E w B x cs∧cs.length=sz∧∀j v,cs[j]?=some v→w.cell? ⟨b,o+k*sz+j,none⟩=some v)
section
variable {α:Type} {E:World→Nat→α→List Value→Prop} {sz:Nat} {w ab:World} {B q n:Nat} {A:NH} {l:List α}
theorem cp.bY(A:NH):cp E sz w B A 0 ([]:List α):=⟨rfl,fun h=>absurd h (by omega)⟩
theorem cp.ak(h:cp E sz w B A n l)(O:Below B w ab)(aF:∀x cs,E w B x cs→E ab B x cs):cp E sz ab B A n l:=by
 refine⟨h.1,fun hn=>?_⟩;obtain⟨b,o,bF,ao,hc⟩:=h.2 hn;refine⟨b,o,bF,ao,fun k x hx=>?_⟩;obtain⟨cs,he,hl,bi⟩:=hc k x hx;exact⟨cs,aF _ _ he,hl,fun j v bK=>(O.cell (p:=⟨b,_,none⟩) ao).trans (bi j v bK)⟩
theorem cp.more(h:cp E sz w B A n l)(aT:B≤q)(aF:∀x cs,E w B x cs→E w q x cs):cp E sz w q A n l:=by
 refine⟨h.1,fun hn=>?_⟩;obtain⟨b,o,bF,ao,hc⟩:=h.2 hn;refine⟨b,o,bF,by omega,fun k x hx=>?_⟩;obtain⟨cs,he,hl,bi⟩:=hc k x hx;exact⟨cs,aF _ _ he,hl,bi⟩
end
def EF{α:Type}(f:α→List Value):World→Nat→α→List Value→Prop:=fun _ _ x cs=>cs=f x
section
variable {α:Type} {f:α→List Value} {sz:Nat} {w ab:World} {B q n:Nat} {A:NH} {l:List α}
theorem cp.fA(h:cp (EF f) sz w B A n l)(O:Below B w ab):cp (EF f) sz ab B A n l:=h.ak O fun _ _ h=>h
theorem cp.KL(h:cp (EF f) sz w B A n l)(aT:B≤q):cp (EF f) sz w q A n l:=h.more aT fun _ _ h=>h
theorem cp.cD(h:cp (EF f) sz w B A n l)(O:Below B w ab)(aT:B≤q):cp (EF f) sz ab q A n l:=(h.fA O).KL aT
theorem cp.Kt(h:cp (EF f) sz w B A n l){k:Nat}(aj:k<n) :
  ∃b o x,A=some ⟨b,o,none⟩∧b<B∧l[k]?=some x∧(f x).length=sz∧∀j v,(f x)[j]?=some v→w.cell? ⟨b,o+k*sz+j,none⟩=some v:=by
 obtain⟨b,o,bF,O,hc⟩:=h.2 (by omega);have hm:l[k]?=some (l[k]'(by have:=h.1;omega)):=List.getElem?_eq_getElem _;obtain⟨cs,he,hl,bi⟩:=hc k _ hm;rw[EF] at he;subst he;exact⟨b,o,_,bF,O,hm,hl,bi⟩
theorem cp.some_(h:cp (EF f) sz w B A n l)(aj:0<n):∃b o,A=some ⟨b,o,none⟩∧b<B:=by
 obtain⟨b,o,bF,O,_⟩:=h.2 aj;exact⟨b,o,bF,O⟩
end
theorem fX{α:Type}(f:α→List Value)(sz:Nat):∀(l:List α),(∀x∈l,(f x).length=sz)→∀k x,l[k]?=some x→∀j,j<sz→(l.flatMap f)[k*sz+j]?=(f x)[j]?
 | [],_,k,x,h,_,_=>by simp at h
 | a::l,hs,0,x,h,j,bi=>by
  have bg:=hs a (by simp);simp only[List.getElem?_cons_zero,Option.some.injEq] at h;subst h;simp only[List.flatMap_cons,Nat.zero_mul,Nat.zero_add]
  rw[List.getElem?_append_left (by omega)]
 | a::l,hs,k+1,x,h,j,bi=>by
  have bg:=hs a (by simp);simp only[List.getElem?_cons_succ] at h;have aq:=fX f sz l (fun y bb=>hs y (by simp[bb])) k x h j bi;simp only[List.flatMap_cons];rw[List.getElem?_append_right (by rw[bg,Nat.succ_mul];omega),bg,←aq];congr 1
  rw[Nat.succ_mul];omega
theorem gD{α:Type}(f:α→List Value)(sz:Nat)(l:List α)(hs:∀x∈l,(f x).length=sz):(l.flatMap f).length=l.length*sz:=by
 induction l with
 | nil=>simp
 | cons a l aq=>
  rw[List.flatMap_cons,List.length_append,hs a (by simp),aq (fun x hx=>hs x (by simp[hx])),List.length_cons,Nat.succ_mul];omega
theorem bG{w:World}{base:Nat}{e:TypeId}{sz:Nat}{v:Value}{n:Nat}{xs:List Value}(h:w.ownsRow base e sz v n xs) :
  ∃A c,v=.slice A n c∧n≤c∧c≤maxLen∧(A=none→n=0∧c=0)∧∀a,A=some a→∃g,a=⟨g,0,none⟩∧base≤g∧g<w.heap.size:=by
 rcases h.2 with⟨rfl,rfl⟩|⟨g,cap,cur,rfl,O,aR,hn,hc,_⟩
 ·exact⟨none,0,rfl,Nat.le_refl _,by simp,fun _=>⟨rfl,rfl⟩,fun _ h=>nomatch h⟩
 ·exact⟨_,_,rfl,hn,hc,(fun h=>nomatch h),fun a h=>(by injection h with h;exact⟨g,h.symm,O,(Array.getElem?_eq_some_iff.1 aR).1⟩)⟩
theorem gH{α:Type}{f:α→List Value}{w:World}{base:Nat}{e:TypeId}{sz:Nat}{A:NH}{n c:Nat}{l:List α}
  (h:w.ownsRow base e sz (.slice A n c) n (l.flatMap f)) (hs:∀x∈l,(f x).length=sz) (hl:l.length=n):cp (EF f) sz w w.heap.size A n l:=by
 refine⟨hl,fun hn=>?_⟩;rcases h.2 with⟨bK,h0⟩|⟨g,cap,cur,bK,_,aR,aQ,_,T,a⟩
 ·omega
 ·injection bK with bF _ _;subst bF;refine⟨g,0,rfl,(Array.getElem?_eq_some_iff.1 aR).1,fun k x hx=>⟨f x,rfl,hs x (List.mem_of_getElem? hx),fun j v bi=>?_⟩⟩;have r:j<sz:=by
   have:=hs x (List.mem_of_getElem? hx);have:=(List.getElem?_eq_some_iff.1 bi).1;omega
  have ce:k<l.length:=(List.getElem?_eq_some_iff.1 hx).1;have cr:=fX f sz l hs k x hx j r;rw[bi,←a,List.getElem?_take] at cr;split at cr
  ·rw[cell_of_row w g _ cur e (0,0) aR,Nat.zero_add];simpa using cr
  ·cases cr
theorem z0{w ab:World}{base B:Nat}{e:TypeId}{sz:Nat}{v:Value}{n:Nat}{xs:List Value}(h:w.ownsRow base e sz v n xs)(O:Below B w ab)(aT:∀g,v.ownBlock=some g→g<B):ab.ownsRow base e sz v n xs:=by
 refine⟨h.1,?_⟩;rcases h.2 with az|⟨g,cap,cur,rfl,j,aR,rest⟩
 ·exact .inl az
 ·exact .inr ⟨g,cap,cur,rfl,j,(O.block g (aT g rfl)).trans aR,rest⟩
theorem bV{w ab:World}{base:Nat}{e:TypeId}{sz:Nat}{v:Value}{n:Nat}{xs:List Value}(h:w.ownsRow base e sz v n xs)(O:Below w.heap.size w ab):ab.ownsRow base e sz v n xs:=
 z0 h O fun g aR=>(h.lt g aR).2
theorem iF{w:World}{base:Nat}{e:TypeId}{sz:Nat}{A:NH}{n c:Nat}{xs:List Value}(h:w.ownsRow base e sz (.slice A n c) n xs)(hn:0<n) :
  ∃g,A=some ⟨g,0,none⟩∧base≤g∧g<w.heap.size∧(∀j u,xs[j]?=some u→w.cell? ⟨g,j,none⟩=some u)∧(∀j,w.frozen? ⟨g,j,none⟩=false)∧
   ∀j u,j<n*sz→(w.setCell ⟨g,j,none⟩ u).ownsRow base e sz (.slice A n c) n (xs.set j u):=by
 rcases h.2 with⟨bK,h0⟩|⟨g,cap,cur,bK,O,aR,aQ,v,T,a⟩
 ·omega
 ·injection bK with bF _ hc;subst bF hc;refine⟨g,rfl,O,(Array.getElem?_eq_some_iff.1 aR).1,fun j u hu=>?_,fun j=>?_,fun j u bi=>⟨by rw[List.length_set];exact h.1,.inr ⟨g,c,cur.setIfInBounds j u,rfl,O,?_,aQ,v,by simpa using T,?_⟩⟩⟩
  ·rw[←a,List.getElem?_take] at hu;split at hu
   ·rw[cell_of_row w g j cur e (0,0) aR];simpa using hu
   ·cases hu
  ·simp[World.frozen?,aR]
  ·simp[World.setCell,Array.getElem?_modify,aR]
  ·rw[←a,Array.toList_setIfInBounds,List.take_set]
theorem ke{α:Type}(f:α→List Value)(sz:Nat):∀(l:List α),(∀x∈l,(f x).length=sz)→∀k x,l[k]?=some x→∀j u y,j<sz→(f x).set j u=f y→(l.flatMap f).set (k*sz+j) u=(l.set k y).flatMap f
 | [],_,k,x,h,_,_,_,_,_=>by simp at h
 | a::l,hs,0,x,h,j,u,y,bi,bb=>by
  have bg:=hs a (by simp);simp only[List.getElem?_cons_zero,Option.some.injEq] at h;subst h;simp only[List.flatMap_cons,Nat.zero_mul,Nat.zero_add,List.set_cons_zero]
  rw[List.set_append_left _ _ (by omega),bb]
 | a::l,hs,k+1,x,h,j,u,y,bi,bb=>by
  have bg:=hs a (by simp);simp only[List.getElem?_cons_succ] at h;have aq:=ke f sz l (fun y bb=>hs y (by simp[bb])) k x h j u y bi bb;simp only[List.flatMap_cons,List.set_cons_succ];rw[List.set_append_right _ _ (by rw[bg,Nat.succ_mul];omega),bg,←aq];congr 2
  rw[Nat.succ_mul];omega
theorem sN{P:Program}(w:World)(t e:TypeId)(a:NH)(n c a6 aD:Nat)(h:P.underlying t=some (.slice e)) :
  (binOp .eql t (.slice a n c) (.slice none a6 aD)).run P w=.ok (.bool a.isNone) w:=by
 have key:∀d:Nat,(Op.equalIn (d+1) t (.slice a n c) (.slice none a6 aD)).run P w=.ok a.isNone w:=fun d=>by
  rcases a with _|a<;>simp[Op.equalIn,run_underlying h]
 simp only[binOp];simp[Op.equal,Op.maxDepth,key 9999]
def Src(w:World)(sz:Nat)(A:NH)(m:Nat)(news:List Value):Prop:=
 news.length=m*sz∧(∀u∈news,u.oneCell'=true)∧(0<m→∃b o,A=some ⟨b,o,none⟩∧∀j u,news[j]?=some u→w.cell? ⟨b,o+j,none⟩=some u)
theorem Src.one{w:World}{b:Nat}{u:Value}(h:w.cell? ⟨b,0,none⟩=some u)(ac:u.oneCell'=true):Src w 1 (some ⟨b,0,none⟩) 1 [u]:=
 ⟨rfl,by simpa using ac,fun _=>⟨b,0,rfl,fun j v bi=>by
  cases j with
  | zero=>simp at bi;subst bi;exact h
  | succ j=>simp at bi⟩⟩
theorem Src.block{w:World}{g:Nat}{e:TypeId}{xs:Array Value}{sz:Nat}(aR:w.heap[g]?=some (.cells xs e (0,0)))(m:Nat)(hm:xs.size=m*sz)(ac:∀u∈xs.toList,u.oneCell'=true) :
  Src w sz (some ⟨g,0,none⟩) m xs.toList:=
 ⟨by simpa using hm,ac,fun _=>⟨g,0,rfl,fun j u bi=>by
  rw[Nat.zero_add,cell_of_row w g j xs e (0,0) aR];simpa using bi⟩⟩
theorem Src.l0{α:Type}{f:α→List Value}{sz:Nat}{w:World}{B n:Nat}{A:NH}{l:List α}(h:cp (EF f) sz w B A n l)(hs:∀x∈l,(f x).length=sz)(ac:∀x∈l,∀u∈f x,u.oneCell'=true)(aI:0<sz) :
  Src w sz A n (l.flatMap f):=by
 refine⟨by rw[gD f sz l hs,h.1],fun u hu=>?_,fun hn=>?_⟩
 ·obtain⟨x,hx,hu⟩:=List.mem_flatMap.1 hu;exact ac x hx u hu
 ·obtain⟨b,o,bF,_,hc⟩:=h.2 hn;refine⟨b,o,bF,fun j u bi=>?_⟩;have aV:=(List.getElem?_eq_some_iff.1 bi).1;rw[gD f sz l hs] at aV;have ce:j / sz<l.length:=by rw[Nat.div_lt_iff_lt_mul aI];exact aV
  have hx:l[j / sz]?=some (l[j / sz]'ce):=List.getElem?_eq_getElem ce;have d:=Nat.mod_lt j aI;have a:j / sz*sz+j % sz=j:=Nat.div_add_mod' j sz;have cr:=fX f sz l hs _ _ hx (j % sz) d;rw[a,bi] at cr;obtain⟨cs,he,_,c⟩:=hc _ _ hx;rw[EF] at he;subst he;have:=c _ _ cr.symm
  rwa [Nat.add_assoc,a] at this
def cq(P:Program)(t e:TypeId)(z:Value)(size bytes:Nat):Prop:=
 ∃i,P.underlying t=some (.slice e)∧P.info? e=some i∧i.zero=some z∧i.size=size∧i.bytes=bytes∧z.cells.size=size∧0<size
theorem cq.mk'{P:Program}{t e:TypeId}{z:Value}{size bytes:Nat}(ht:P.underlying t=some (.slice e))(aN:(P.info? e).map (fun i=>(i.zero,i.size,i.bytes))=some (some z,size,bytes))(aI:z.cells.size=size)(h0:0<size):cq P t e z size bytes:=by
 obtain⟨i,ac,az,aV,aU⟩:=info_parts aN;exact⟨i,ht,ac,az,aV,aU,aI,h0⟩
section
variable {P:Program} (w:World)
theorem vL(base:Nat)(t ty e:TypeId)(i:TypeInfo)(size:Nat)(ht:P.underlying t=some (.slice e))(aN:P.info? e=some i)
  (v:Value) (n:Nat) (xs:List Value) (aB:w.ownsRow base e size v n xs) (c:Nat):(Builtin.append_ #[t,t] ty #[v,.slice none 0 c]).run P w=.ok v w:=by
 rcases aB.2 with⟨rfl,rfl⟩|⟨g,cap,cur,rfl,_,_,aQ,_⟩
 ·simp[Builtin.append_,run_underlying ht,sizeOf,typeInfo,aN,Builtin.lenOf,Builtin.firstCells]
 ·simp[Builtin.append_,run_underlying ht,sizeOf,typeInfo,aN,Builtin.lenOf,Builtin.firstCells,aQ,storeCells]
theorem HC{t e:TypeId}{z:Value}{size bytes:Nat}(bF:cq P t e z size bytes)(base:Nat)(ty:TypeId)(v:Value)(n:Nat)(xs:List Value)(aB:w.ownsRow base e size v n xs)
  (A:NH) (m c:Nat) (news:List Value) (hs:Src w size A m news) (r:(n+m)*bytes≤140737488355328) (y:n+m≤140737488355328) (C:base≤w.heap.size) (d:A=none→m=0) :
  ∃G ab,(Builtin.append_ #[t,t] ty #[v,.slice A m c]).run P w=.ok G ab∧ab.ownsRow base e size G (n+m) (xs++news)∧w.grownBy ab v.ownBlock∧
   (G.ownBlock=v.ownBlock∨G.ownBlock=some w.heap.size):=by
 obtain⟨i,ht,aN,aI,g,R,cY,U⟩:=bF;rcases A with _|a
 ·have hm:=d rfl;subst hm;have hn:news=[]:=List.eq_nil_of_length_eq_zero (by simpa using hs.1);subst hn;exact⟨v,w,vL w base t ty e i size ht aN v n xs aB c,by simpa using aB,World.grownBy.refl w _,.inl rfl⟩
 ·have al:∀j u,news[j]?=some u→w.cell? (a.add j)=some u:=by
   intro j u hu;rcases Nat.eq_zero_or_pos m with h0|h0
   ·subst h0;have hn:news=[]:=List.eq_nil_of_length_eq_zero (by simpa using hs.1);subst hn;simp at hu
   ·obtain⟨b,o,h,hc⟩:=hs.2.2 h0;injection h with h;subst h;have:=hc j u hu;by_cases bi:j=0
    ·subst bi;simpa[Addr.add] using this
    ·simpa[Addr.add,bi] using this
  obtain⟨G,ab,H,az,aV,_,cB⟩:=run_append_own_at (P:=P) w base t ty e i z size bytes ht aN aI g R cY U v n xs aB a m c news hs.1 al hs.2.1 (by simp only[maxLen];omega) r C;exact⟨G,ab,H,az,aV,cB⟩
theorem kx{o:Oper}{a:Act}{K:Act→World→Prop}{Q:Exit→Act→World→Prop}{t e:TypeId}{z:Value}{size bytes:Nat}(bF:cq P t e z size bytes)(s x:Operand)
  (bD:o.op=.call {callee:=.builtin .append,args:=#[s,x],argTypes:=#[t,t]})
  (base:Nat) (v:Value) (n:Nat) (xs:List Value) (hs:a.eval s=v) (aB:w.ownsRow base e size v n xs)
  (A:NH) (m c:Nat) (news:List Value) (hx:a.eval x=.slice A m c) (ba:Src w size A m news)
  (r:(n+m)*bytes≤140737488355328) (y:n+m≤140737488355328) (C:base≤w.heap.size) (d:A=none→m=0)
  (h:∀G ab,ab.ownsRow base e size G (n+m) (xs++news)→w.grownBy ab v.ownBlock→(G.ownBlock=v.ownBlock∨G.ownBlock=some w.heap.size)→K (a.put o.dst G) ab):o.wp P a w K Q:=by
 obtain⟨G,ab,H,az,aV,aU⟩:=HC (P:=P) w bF base o.type v n xs aB A m c news ba r y C d;unfold Oper.wp execOp;simp only[bD,resolve,invoke,builtin,Sem.run_bind,Sem.run_pure,Result.andThen_ok,List.map_toArray,List.map_cons,List.map_nil,hs,hx,H];exact h G ab az aV aU
theorem ry{ops:Array Oper}{rest:List Oper}{o:Oper}{a:Act}{Q:Exit→Act→World→Prop}{t e:TypeId}{z:Value}{size bytes:Nat}(bF:cq P t e z size bytes)(i:o.guard=none)(s x:Operand)
  (bD:o.op=.call {callee:=.builtin .append,args:=#[s,x],argTypes:=#[t,t]})
  (base:Nat) (v:Value) (n:Nat) (xs:List Value) (hs:a.eval s=v) (aB:w.ownsRow base e size v n xs)
  (A:NH) (m c:Nat) (news:List Value) (hx:a.eval x=.slice A m c) (ba:Src w size A m news)
  (r:(n+m)*bytes≤140737488355328) (y:n+m≤140737488355328) (C:base≤w.heap.size) (d:A=none→m=0)
  (h:∀G ab,ab.ownsRow base e size G (n+m) (xs++news)→w.grownBy ab v.ownBlock→(G.ownBlock=v.ownBlock∨G.ownBlock=some w.heap.size)→wpList P ops Q rest (a.put o.dst G) ab):wpList P ops Q (o::rest) a w:=
 wpList_plain i fun _ hK=>kx w bF s x bD base v n xs hs aB A m c news hx ba r y C d fun G ab az aV aU=>hK _ _ (h G ab az aV aU)
end
theorem b9{P:Program}(S:World){ops:Array Oper}{rest:List Oper}{o:Oper}{a:Act}{Q:Exit→Act→World→Prop}{t e:TypeId}{z:Value}{size bytes:Nat}(bF:cq P t e z size bytes)(i:o.guard=none)(s x:Operand)
  (bD:o.op=.call {callee:=.builtin .append,args:=#[s,x],argTypes:=#[t,t]})
  (base:Nat) (v:Value) (n:Nat) (xs:List Value) (cs:Array Value) (hs:a.eval s=v) (aB:S.ownsRow base e size v n xs)
  (hx:a.eval x=.slice (some ⟨S.heap.size,0,none⟩) 1 1) (T:cs.size=size) (ac:∀u∈cs.toList,u.oneCell'=true)
  (r:(n+1)*bytes≤140737488355328) (y:n+1≤140737488355328) (C:base≤S.heap.size)
  (h:∀G ab,ab.ownsRow base e size G (n+1) (xs++cs.toList)→S.grownBy ab v.ownBlock→(G.ownBlock=v.ownBlock∨G.ownBlock=some (S.heap.size+1))→wpList P ops Q rest (a.put o.dst G) ab):wpList P ops Q (o::rest) a (S.alloc (.cells cs e)):=by
 refine ry _ bF i s x bD base v n xs hs (aB.alloc _) _ 1 1 cs.toList hx (Src.block (heap_alloc_new S _) 1 (by omega) ac) r y (by simp;omega) (fun h=>nomatch h) fun G ab az aV aU=>?_;refine h G ab az ⟨aV.os,aV.tape,aV.output,by have:=aV.size;simp at this;omega,fun k aj bl=>(aV.block k (by simp;omega) bl).trans (Below.heap_alloc S _ k aj)⟩ ?_;simpa using aU
theorem Src.on{w ab:World}{sz m:Nat}{A:NH}{news:List Value}(h:Src w sz A m news)(O:Below w.heap.size w ab):Src ab sz A m news:=by
 refine⟨h.1,h.2.1,fun hm=>?_⟩;obtain⟨b,o,bF,hc⟩:=h.2.2 hm;refine⟨b,o,bF,fun j u bi=>?_⟩;have c:=hc j u bi;exact(O.cell (p:=⟨b,o+j,none⟩) (World.block_lt_of_cell? w _ c)).trans c
theorem gu{P:Program}(S:World){ops:Array Oper}{rest:List Oper}{o:Oper}{a:Act}{Q:Exit→Act→World→Prop}{t e:TypeId}{z:Value}{size bytes:Nat}(bF:cq P t e z size bytes)(i:o.guard=none)(s x:Operand)
  (bD:o.op=.call {callee:=.builtin .append,args:=#[s,x],argTypes:=#[t,t]})
  (hs:a.eval s=.slice (some ⟨S.heap.size,0,none⟩) 0 0) (A:NH) (m c:Nat) (news:List Value) (hx:a.eval x=.slice A m c) (ba:Src S size A m news)
  (r:m*bytes≤140737488355328) (y:m≤140737488355328) (d:A=none→m=0)
  (h:∀I aD ab,ab.ownsRow S.heap.size e size (.slice I m aD) m news→Below S.heap.size S ab→wpList P ops Q rest (a.put o.dst (.slice I m aD)) ab):wpList P ops Q (o::rest) a (S.alloc (.cells #[] e)):=by
 have aB:(S.alloc (.cells #[] e)).ownsRow S.heap.size e size (.slice (some ⟨S.heap.size,0,none⟩) 0 0) 0 []:=World.ownsRow_made S #[] 0 (Nat.le_refl _) (Nat.zero_le _) (by simp);refine ry _ bF i s x bD S.heap.size _ 0 [] hs aB A m c news hx (ba.on ((Below.refl _ _).alloc (Nat.le_refl _) _)) (by rw[Nat.zero_add];exact r) (by omega) (by simp) d fun G ab az aV aU=>?_;simp only[Nat.zero_add,List.nil_append] at az;have O:Below S.heap.size S ab:=((Below.refl _ _).alloc (Nat.le_refl _) _).grown aV (by simp) (by simp[Value.ownBlock]);obtain⟨I,aD,rfl,_⟩:=bG az;exact h I aD ab az O
theorem dy{B:Nat}{a w ab:World}{base:Nat}{e:TypeId}{sz:Nat}{v:Value}{n:Nat}{xs:List Value}(h:Below B a w)(aB:w.ownsRow base e sz v n xs)(aR:w.grownBy ab v.ownBlock)(aT:B≤base)(cl:B≤w.heap.size):Below B a ab:=
 h.grown aR cl fun k aj=>Nat.le_trans aT (aB.lt k aj).1
section
variable {P:Program} {t e:TypeId} {z:Value} {size bytes:Nat}
theorem run_mk(bF:cq P t e z size bytes)(kl kc:IntKind)(n:Nat)(O:bytes*n≤281474976710656)(y:n≤281474976710656)(w:World) :
  (Instr.makeSlice t (.int kl (n:Int)) (.int kc (n:Int))).run P w=.ok (.slice (some ⟨w.heap.size,0,none⟩) n n) (w.alloc (.cells (madeCells z.cells (n*size)) e)):=by
 obtain⟨i,ht,aN,aI,g,R,cY,U⟩:=bF;have a:(i.bytes:Int)*(n:Int)≤281474976710656:=by
  have h:((i.bytes*n:Nat):Int)≤281474976710656:=by rw[R];omega
  rwa [Int.natCast_mul] at h
 have ba:=run_make (P:=P) w t e i z ht aN aI kl kc n n (by omega) (by omega) a (by omega);simp only[Int.toNat_natCast] at ba;rw[ba,g]
theorem ss{α:Type}{f:α→List Value}{x:α}{zc:Array Value}{sz:Nat}(aI:zc.toList=f x)(hs:(f x).length=sz)(h0:0<sz)(n:Nat):(madeCells zc (n*sz)).toList=(List.replicate n x).flatMap f:=by
 have cY:zc.size=sz:=by rw[←Array.length_toList,aI,hs]
 apply List.ext_getElem?
 intro j;by_cases bi:j<n*sz
 ·have aj:j / sz<n:=by rw[Nat.div_lt_iff_lt_mul h0];exact bi
  have hm:=Nat.mod_lt j h0;have hx:(List.replicate n x)[j / sz]?=some x:=by rw[List.getElem?_replicate,if_pos aj]
  have:=fX f sz (List.replicate n x) (fun y bb=>by rw[(List.mem_replicate.1 bb).2];exact hs) _ _ hx _ hm;rw[Nat.div_add_mod'] at this;rw[this,←aI];have aP:j % zc.size<zc.size:=by rw[cY];exact hm
  simp only[madeCells,Array.getElem?_toList,Array.getElem?_map,Array.getElem?_range,bi,if_pos,Option.map_some];rw[←cY,getElem!_pos zc _ aP,Array.getElem?_eq_getElem aP]
 ·rw[List.getElem?_eq_none (by rw[Array.length_toList,size_madeCells];omega),List.getElem?_eq_none (by rw[gD f sz _ (fun y bb=>by rw[(List.mem_replicate.1 bb).2];exact hs),List.length_replicate];omega)]
theorem Fz{α:Type}{f:α→List Value}{x:α}{zc:Array Value}{sz:Nat}(aI:zc.toList=f x)(hs:(f x).length=sz)(h0:0<sz)(n:Nat)(hn:n≤281474976710656){w:World}{base:Nat}(O:base≤w.heap.size) :
  (w.alloc (.cells (madeCells zc (n*sz)) e)).ownsRow base e sz (.slice (some ⟨w.heap.size,0,none⟩) n n) n ((List.replicate n x).flatMap f):=by
 rw[←ss aI hs h0 n];exact World.ownsRow_lit w _ n O (by unfold maxLen;omega) (size_madeCells _ _)
end
def bQ(x:Int):List Value:=[.int .i64 x]
def o2(x:ByteArray):List Value:=[.string x]
theorem cp.int{w:World}{B n:Nat}{A:NH}{l:List Int}(h:cp (EF bQ) 1 w B A n l){k:Nat}(aj:k<n) :
  ∃b o x,A=some ⟨b,o,none⟩∧b<B∧l[k]?=some x∧w.cell? ⟨b,o+k,none⟩=some (.int .i64 x):=by
 obtain⟨b,o,x,bF,O,hx,_,hc⟩:=h.Kt aj;have:=hc 0 _ rfl;simp only[Nat.mul_one,Nat.add_zero] at this;exact⟨b,o,x,bF,O,hx,this⟩
theorem cp.str{w:World}{B n:Nat}{A:NH}{l:NI}(h:cp (EF o2) 1 w B A n l){k:Nat}(aj:k<n) :
  ∃b o x,A=some ⟨b,o,none⟩∧b<B∧l[k]?=some x∧w.cell? ⟨b,o+k,none⟩=some (.string x):=by
 obtain⟨b,o,x,bF,O,hx,_,hc⟩:=h.Kt aj;have:=hc 0 _ rfl;simp only[Nat.mul_one,Nat.add_zero] at this;exact⟨b,o,x,bF,O,hx,this⟩
theorem uX(l:List Int):l.flatMap bQ=l.map (Value.int .i64):=by
 induction l with
 | nil=>rfl
 | cons a l aq=>rw[List.flatMap_cons,aq];rfl
theorem dT(l:List Int)(x:Int):(l++[x]).flatMap bQ=l.flatMap bQ++[.int .i64 x]:=by
 rw[List.flatMap_append];rfl
theorem hL(k:IntKind)(x:Int):∀u∈(#[Value.int k x]:Array Value).toList,u.oneCell'=true:=by
 intro u hu;simp at hu;subst hu;rfl
theorem gE(l:List Int):∀x∈l,(bQ x).length=1:=fun _ _=>rfl
theorem row_slr{k:IntKind}{w:World}{a:NH}{len cap:Nat}{b:List Int}
  (h:(a=none∧len=0∧cap=0∧b=[])∨∃x,a=some x∧len≤cap∧cap≤maxLen∧b.length=cap∧(∀i,i<b.length→w.cell? (x.add i)=some (.int k (b.getD i 0)))∧∀n∈b,(Lit.int k n).wf=true) (aj:k=.i64) :
  cp (EF bQ) 1 w w.heap.size a len (b.take len):=by
 subst aj;rcases h with⟨rfl,rfl,rfl,rfl⟩|⟨x,rfl,bo,_,aI,hc,_⟩
 ·exact cp.bY _
 ·refine⟨by simp;omega,fun hn=>?_⟩;have h0:=hc 0 (by omega);have hx:x.spot=none:=by
   have ac:w.cell? x=some (.int .i64 (b.getD 0 0)):=by simpa[Addr.add] using h0
   cases hs:x.spot with
   | none=>rfl
   | some s=>
    rw[World.cell?] at ac;split at ac
    ·rw[hs] at ac;simp at ac
    ·cases ac
  have T:=World.block_lt_of_cell? w _ h0;refine⟨x.block,x.off,by rw[←hx],by simpa[Addr.add] using T,fun j v bi=>⟨bQ v,rfl,rfl,fun i u hu=>?_⟩⟩;have aV:=(List.getElem?_eq_some_iff.1 bi).1;rw[List.length_take] at aV;have c:=hc j (by omega);rw[List.getElem?_take] at bi;split at bi
  ·have bK:b.getD j 0=v:=by rw[List.getD_eq_getElem?_getD,bi];rfl
   rw[bK] at c;have aN:i=0∧u=.int .i64 v:=by
    cases i with
    | zero=>simp[bQ] at hu;exact⟨rfl,hu.symm⟩
    | succ i=>simp[bQ] at hu
   obtain⟨rfl,rfl⟩:=aN;have bg:x.add j=⟨x.block,x.off+j*1+0,none⟩:=by
    rw[Nat.mul_one,Nat.add_zero];unfold Addr.add;split
    ·rename_i cO;rw[cO,Nat.add_zero,←hx]
    ·rfl
   rw[bg] at c;exact c
  ·cases bi
theorem cF:cq prog 22 3 (.int .i64 0) 1 8:=cq.mk' Tryz.underlying22 (by kernel_rfl) rfl (by omega)
inductive D where
 | i (n:Int)
 | b (x:Bool)
 | s (x:ByteArray)
 | st (l:List D)
 | sl (l:List D)
mutual
def D.rep(w:World)(P:Nat→Prop):D→List Value→Prop
 | .i n=>fun cs=>cs=[.int .i64 n]
 | .b x=>fun cs=>cs=[.bool x]
 | .s x=>fun cs=>cs=[.string x]
 | .st l=>fun cs=>D.aQ w P l cs
 | .sl l=>fun cs=>∃A c,cs=[.slice A l.length c]∧l.length≤c∧(0<l.length→∃b o xs,A=some ⟨b,o,none⟩∧P b∧D.aQ w P l xs∧∀j u,xs[j]?=some u→w.cell? ⟨b,o+j,none⟩=some u)
def D.aQ(w:World)(P:Nat→Prop):List D→List Value→Prop
 | []=>fun cs=>cs=[]
 | d::l=>fun cs=>∃x y,cs=x++y∧D.rep w P d x∧D.aQ w P l y
end
mutual
def D.sz:D→Nat
 | .i _=>1
 | .b _=>1
 | .s _=>1
 | .st l=>D.Af l
 | .sl _=>1
def D.Af:List D→Nat
 | []=>0
 | d::l=>D.sz d+D.Af l
end
mutual
theorem D.lL{w:World}{P:Nat→Prop}:∀(d:D) (cs:List Value),d.rep w P cs→cs.length=d.sz
 | .i n,cs,h=>by simp only[D.rep] at h;subst h;rfl
 | .b x,cs,h=>by simp only[D.rep] at h;subst h;rfl
 | .s x,cs,h=>by simp only[D.rep] at h;subst h;rfl
 | .st l,cs,h=>by simp only[D.rep] at h;simp only[D.sz];exact D.hP l cs h
 | .sl l,cs,h=>by simp only[D.rep] at h;obtain⟨A,c,rfl,_⟩:=h;rfl
theorem D.hP{w:World}{P:Nat→Prop}:∀(l:List D) (cs:List Value),D.aQ w P l cs→cs.length=D.Af l
 | [],cs,h=>by simp only[D.aQ] at h;subst h;rfl
 | d::l,cs,h=>by
  simp only[D.aQ] at h;obtain⟨x,y,rfl,hx,bb⟩:=h;simp only[D.Af,List.length_append,D.lL d x hx,D.hP l y bb]
end
mutual
theorem D.aO{w ab:World}{P:Nat→Prop}(aj:∀b,P b→ab.heap[b]?=w.heap[b]?):∀(d:D) (cs:List Value),d.rep w P cs→d.rep ab P cs
 | .i n,cs,h=>by simpa only[D.rep] using h
 | .b x,cs,h=>by simpa only[D.rep] using h
 | .s x,cs,h=>by simpa only[D.rep] using h
 | .st l,cs,h=>by simp only[D.rep] at h ⊢;exact D.bZ aj l cs h
 | .sl l,cs,h=>by
  simp only[D.rep] at h ⊢;obtain⟨A,c,T,hc,hn⟩:=h;refine⟨A,c,T,hc,fun h0=>?_⟩;obtain⟨b,o,xs,bF,O,ba,bi⟩:=hn h0;exact⟨b,o,xs,bF,O,D.bZ aj l xs ba,fun j u hu=>(World.cell?_of_block (w:=w) (aj b O)).trans (bi j u hu)⟩
theorem D.bZ{w ab:World}{P:Nat→Prop}(aj:∀b,P b→ab.heap[b]?=w.heap[b]?):∀(l:List D) (cs:List Value),D.aQ w P l cs→D.aQ ab P l cs
 | [],cs,h=>by simpa only[D.aQ] using h
 | d::l,cs,h=>by
  simp only[D.aQ] at h ⊢;obtain⟨x,y,rfl,hx,bb⟩:=h;exact⟨x,y,rfl,D.aO aj d x hx,D.bZ aj l y bb⟩
end
mutual
theorem D.aM{w:World}{P cU:Nat→Prop}(hp:∀b,P b→cU b):∀(d:D) (cs:List Value),d.rep w P cs→d.rep w cU cs
 | .i n,cs,h=>by simpa only[D.rep] using h
 | .b x,cs,h=>by simpa only[D.rep] using h
 | .s x,cs,h=>by simpa only[D.rep] using h
 | .st l,cs,h=>by simp only[D.rep] at h ⊢;exact D.b0 hp l cs h
 | .sl l,cs,h=>by
  simp only[D.rep] at h ⊢;obtain⟨A,c,T,hc,hn⟩:=h;refine⟨A,c,T,hc,fun h0=>?_⟩;obtain⟨b,o,xs,bF,O,ba,bi⟩:=hn h0;exact⟨b,o,xs,bF,hp b O,D.b0 hp l xs ba,bi⟩
theorem D.b0{w:World}{P cU:Nat→Prop}(hp:∀b,P b→cU b):∀(l:List D) (cs:List Value),D.aQ w P l cs→D.aQ w cU l cs
 | [],cs,h=>by simpa only[D.aQ] using h
 | d::l,cs,h=>by
  simp only[D.aQ] at h ⊢;obtain⟨x,y,rfl,hx,bb⟩:=h;exact⟨x,y,rfl,D.aM hp d x hx,D.b0 hp l y bb⟩
end
mutual
theorem D.tX{w:World}{P:Nat→Prop}:∀(d:D) (cs:List Value),d.rep w P cs→∀u∈cs,u.oneCell'=true
 | .i n,cs,h=>by simp only[D.rep] at h;subst h;simp[Value.oneCell']
 | .b x,cs,h=>by simp only[D.rep] at h;subst h;simp[Value.oneCell']
 | .s x,cs,h=>by simp only[D.rep] at h;subst h;simp[Value.oneCell']
 | .st l,cs,h=>by simp only[D.rep] at h;exact D.q4 l cs h
 | .sl l,cs,h=>by simp only[D.rep] at h;obtain⟨A,c,rfl,_⟩:=h;simp[Value.oneCell']
theorem D.q4{w:World}{P:Nat→Prop}:∀(l:List D) (cs:List Value),D.aQ w P l cs→∀u∈cs,u.oneCell'=true
 | [],cs,h=>by simp only[D.aQ] at h;subst h;simp
 | d::l,cs,h=>by
  simp only[D.aQ] at h;obtain⟨x,y,rfl,hx,bb⟩:=h;intro u hu;rcases List.mem_append.1 hu with hu|hu
  ·exact D.tX d x hx u hu
  ·exact D.q4 l y bb u hu
end
theorem D.cS{w:World}{P:Nat→Prop}:∀{l m:List D} {x y:List Value},D.aQ w P l x→D.aQ w P m y→D.aQ w P (l++m) (x++y)
 | [],m,x,y,hx,bb=>by simp only[D.aQ] at hx;subst hx;exact bb
 | d::l,m,x,y,hx,bb=>by
  simp only[D.aQ,List.cons_append] at hx ⊢;obtain⟨a,c,rfl,bg,hc⟩:=hx;exact⟨a,c++y,by rw[List.append_assoc],bg,D.cS hc bb⟩
theorem D.kp{w:World}{P:Nat→Prop}:∀{l m:List D} {x:List Value},D.aQ w P (l++m) x→∃y z,x=y++z∧D.aQ w P l y∧D.aQ w P m z
 | [],m,x,h=>⟨[],x,rfl,by simp only[D.aQ],h⟩
 | d::l,m,x,h=>by
  simp only[D.aQ,List.cons_append] at h;obtain⟨a,c,rfl,bg,hc⟩:=h;obtain⟨y,z,rfl,bb,aI⟩:=D.kp hc;exact⟨a++y,z,by rw[List.append_assoc],by simp only[D.aQ];exact⟨a,y,rfl,bg,bb⟩,aI⟩
theorem D.bx{w:World}{P:Nat→Prop}{d:D}{x:List Value}:D.aQ w P [d] x↔d.rep w P x:=by
 simp only[D.aQ];constructor
 ·rintro⟨a,b,rfl,bg,rfl⟩;simpa using bg
 ·intro h;exact⟨x,[],by simp,h,rfl⟩
theorem D.hi{z:Nat}:∀{l:List D},(∀d∈l,d.sz=z)→D.Af l=l.length*z
 | [],_=>by simp[D.Af]
 | d::l,h=>by
  have aq:D.Af l=l.length*z:=D.hi (fun x hx=>h x (List.mem_cons_of_mem _ hx));simp only[D.Af,List.length_cons,Nat.succ_mul,h d (List.mem_cons_self),aq];omega
theorem D.pJ{w:World}{P:Nat→Prop}{z:Nat}:∀{l:List D} {xs:List Value},D.aQ w P l xs→(∀d∈l,d.sz=z)→∀{k:Nat} {d:D},l[k]?=some d→
  ∃cs,d.rep w P cs∧cs.length=z∧∀j u,cs[j]?=some u→xs[k*z+j]?=some u
 | [],xs,_,_,k,d,aj=>by simp at aj
 | e::l,xs,h,aI,0,d,aj=>by
  simp only[D.aQ] at h;obtain⟨x,y,rfl,hx,_⟩:=h;simp only[List.getElem?_cons_zero,Option.some.injEq] at aj;subst aj;refine⟨x,hx,(D.lL _ _ hx).trans (aI e (by simp)),fun j u hu=>?_⟩;rw[Nat.zero_mul,Nat.zero_add,List.getElem?_append_left (List.getElem?_eq_some_iff.1 hu).1]
  exact hu
 | e::l,xs,h,aI,k+1,d,aj=>by
  simp only[D.aQ] at h;obtain⟨x,y,rfl,hx,bb⟩:=h;simp only[List.getElem?_cons_succ] at aj;obtain⟨cs,ba,hl,bi⟩:=D.pJ bb (fun x hx=>aI x (by simp[hx])) aj;have aZ:=(D.lL _ _ hx).trans (aI e (by simp));refine⟨cs,ba,hl,fun j u hu=>?_⟩;rw[List.getElem?_append_right (by rw[aZ,Nat.succ_mul];omega),aZ,show (k+1)*z+j - z=k*z+j by rw[Nat.succ_mul];omega];exact bi j u hu
def Sl(w:World)(P:Nat→Prop)(A:NH)(n:Nat)(l:List D):Prop:=
 l.length=n∧(0<n→∃b o xs,A=some ⟨b,o,none⟩∧P b∧D.aQ w P l xs∧∀j u,xs[j]?=some u→w.cell? ⟨b,o+j,none⟩=some u)
section
variable {w ab:World} {P cU:Nat→Prop} {A:NH} {n z:Nat} {l:List D}
theorem D.ud{cs:List Value}:(D.sl l).rep w P cs↔∃A c n,cs=[.slice A n c]∧n≤c∧Sl w P A n l:=by
 simp only[D.rep,Sl];constructor
 ·rintro⟨A,c,rfl,hc,h⟩;exact⟨A,c,_,rfl,hc,rfl,h⟩
 ·rintro⟨A,c,n,rfl,hc,rfl,h⟩;exact⟨A,c,rfl,hc,h⟩
theorem Sl.bY(A:NH):Sl w P A 0 []:=⟨rfl,fun h=>absurd h (by omega)⟩
theorem Sl.ak(h:Sl w P A n l)(aj:∀b,P b→ab.heap[b]?=w.heap[b]?):Sl ab P A n l:=by
 refine⟨h.1,fun hn=>?_⟩;obtain⟨b,o,xs,bF,O,ba,bi⟩:=h.2 hn;exact⟨b,o,xs,bF,O,D.bZ aj l xs ba,fun j u hu=>(World.cell?_of_block (w:=w) (aj b O)).trans (bi j u hu)⟩
theorem Sl.mono(h:Sl w P A n l)(hp:∀b,P b→cU b):Sl w cU A n l:=by
 refine⟨h.1,fun hn=>?_⟩;obtain⟨b,o,xs,bF,O,ba,bi⟩:=h.2 hn;exact⟨b,o,xs,bF,hp b O,D.b0 hp l xs ba,bi⟩
theorem Sl.some_(h:Sl w P A n l)(hn:0<n):∃b o,A=some ⟨b,o,none⟩∧P b:=by
 obtain⟨b,o,xs,bF,O,_⟩:=h.2 hn;exact⟨b,o,bF,O⟩
theorem Sl.none_(h:Sl w P none n l):n=0:=by
 rcases Nat.eq_zero_or_pos n with h0|h0
 ·exact h0
 ·obtain⟨b,o,bF,_⟩:=h.some_ h0;cases bF
theorem Sl.at_(h:Sl w P A n l)(aI:∀d∈l,d.sz=z){k:Nat}(aj:k<n) :
  ∃b o d cs,A=some ⟨b,o,none⟩∧P b∧l[k]?=some d∧d.rep w P cs∧cs.length=z∧∀j u,cs[j]?=some u→w.cell? ⟨b,o+k*z+j,none⟩=some u:=by
 obtain⟨b,o,xs,bF,O,ba,bi⟩:=h.2 (by omega);have hm:l[k]?=some (l[k]'(by have:=h.1;omega)):=List.getElem?_eq_getElem _;obtain⟨cs,hd,hl,hc⟩:=D.pJ ba aI hm;exact⟨b,o,_,cs,bF,O,hm,hd,hl,fun j u hu=>by rw[Nat.add_assoc];exact bi _ u (hc j u hu)⟩
theorem Sl.g1{α:Type}{enc:α→D}{l:List α}(h:Sl w P A n (l.map enc))(aI:∀x,(enc x).sz=z){k:Nat}(aj:k<n) :
  ∃b o x cs,A=some ⟨b,o,none⟩∧P b∧l[k]?=some x∧(enc x).rep w P cs∧cs.length=z∧∀j u,cs[j]?=some u→w.cell? ⟨b,o+k*z+j,none⟩=some u:=by
 obtain⟨b,o,d,cs,bF,O,hd,ba,hl,hc⟩:=h.at_ (z:=z) (fun d hd=>by obtain⟨x,_,rfl⟩:=List.mem_map.1 hd;exact aI x) aj;rw[List.getElem?_map] at hd
 cases hx:l[k]? with
 | none=>rw[hx] at hd;cases hd
 | some x=>
  rw[hx] at hd;injection hd with hd;subst hd;exact⟨b,o,x,cs,bF,O,rfl,ba,hl,hc⟩
theorem Sl.take(h:Sl w P A n l){m:Nat}(hm:m≤n):Sl w P A m (l.take m):=by
 refine⟨by have:=h.1;simp;omega,fun h0=>?_⟩;obtain⟨b,o,xs,bF,O,ba,bi⟩:=h.2 (by omega);rw[←List.take_append_drop m l] at ba;obtain⟨y,cf,rfl,bb,_⟩:=D.kp ba;exact⟨b,o,y,bF,O,bb,fun j u hu=>bi j u (by rw[List.getElem?_append_left (List.getElem?_eq_some_iff.1 hu).1];exact hu)⟩
theorem Sl.src(h:Sl w P A n l)(aI:∀d∈l,d.sz=z):∃xs,D.aQ w P l xs∧Src w z A n xs:=by
 rcases Nat.eq_zero_or_pos n with hn|hn
 ·subst hn;have:l=[]:=List.eq_nil_of_length_eq_zero h.1;subst this;exact⟨[],by simp only[D.aQ],by simp,by simp,fun h=>absurd h (by omega)⟩
 ·obtain⟨b,o,xs,bF,O,ba,bi⟩:=h.2 hn;exact⟨xs,ba,by rw[D.hP _ _ ba,D.hi aI,h.1],D.q4 l xs ba,fun _=>⟨b,o,bF,bi⟩⟩
theorem Sl.qQ{base:Nat}{e:TypeId}{c:Nat}{xs:List Value}(h:w.ownsRow base e z (.slice A n c) n xs)(ba:D.aQ w P l xs)(hl:l.length=n)(bh:∀g,A=some ⟨g,0,none⟩→base≤g→g<w.heap.size→P g):Sl w P A n l:=by
 refine⟨hl,fun hn=>?_⟩;obtain⟨g,bF,O,aR,hc,_⟩:=iF h hn;exact⟨g,0,xs,bF,bh g bF O aR,ba,fun j u hu=>by rw[Nat.zero_add];exact hc j u hu⟩
end
abbrev av(w:World):Nat→Prop:=fun b=>b<w.heap.size
theorem D.on{w ab:World}{d:D}{cs:List Value}(h:d.rep w (av w) cs)(O:Below w.heap.size w ab):d.rep ab (av ab) cs:=
 D.aM (fun _ ap=>Nat.lt_of_lt_of_le ap O.size) _ _ (D.aO (fun b ap=>O.block b ap) _ _ h)
theorem Sl.on{w ab:World}{A:NH}{n:Nat}{l:List D}(h:Sl w (av w) A n l)(O:Below w.heap.size w ab):Sl ab (av ab) A n l:=
 (h.ak (fun b ap=>O.block b ap)).mono (fun _ ap=>Nat.lt_of_lt_of_le ap O.size)
structure Fr(M:Nat→Prop)(w ab:World):Prop where
 os:ab.os=w.os
 tape:ab.tape=w.tape
 output:ab.output=w.output
 size:w.heap.size≤ab.heap.size
 block:∀k,k<w.heap.size→¬M k→ab.heap[k]?=w.heap[k]?
abbrev Ext:World→World→Prop:=Fr fun _=>False
section
variable {M M':Nat→Prop} {a b c:World}
theorem Fr.refl(M:Nat→Prop)(w:World):Fr M w w:=⟨rfl,rfl,rfl,Nat.le_refl _,fun _ _ _=>rfl⟩
theorem Fr.trans(h:Fr M a b)(k:Fr M b c):Fr M a c:=
 ⟨k.os.trans h.os,k.tape.trans h.tape,k.output.trans h.output,Nat.le_trans h.size k.size,fun i aN hn=>(k.block i (Nat.lt_of_lt_of_le aN h.size) hn).trans (h.block i aN hn)⟩
theorem Fr.mono(h:Fr M a b)(hM:∀k,M k→M' k):Fr M' a b:=⟨h.os,h.tape,h.output,h.size,fun k aj hn=>h.block k aj fun hm=>hn (hM k hm)⟩
theorem Fr.of(h:Below a.heap.size a b):Fr M a b:=⟨h.os,h.tape,h.output,h.size,fun k aj _=>h.block k aj⟩
theorem Fr.below{B:Nat}(h:Fr M a b)(aT:B≤a.heap.size)(hM:∀k,k<B→¬M k):Below B a b:=⟨h.os,h.tape,h.output,h.size,fun k aj=>h.block k (Nat.lt_of_lt_of_le aj aT) (hM k aj)⟩
theorem Fr.low(h:Fr M a b)(hM:∀k,M k→a.heap.size≤k):Ext a b:=⟨h.os,h.tape,h.output,h.size,fun k aj _=>h.block k aj fun hm=>by have:=hM k hm;omega⟩
theorem Fr.ext(h:Ext a b):Below a.heap.size a b:=h.below (Nat.le_refl _) fun _ _ h=>h
theorem Fr.drew(h:Fr M a b):Fr M a b.drew:=⟨h.os,h.tape,h.output,h.size,h.block⟩
theorem Fr.drewN(h:Fr M a b)(n:Nat):Fr M a (b.drewN n):=⟨h.os,h.tape,h.output,h.size,h.block⟩
theorem Fr.alloc(h:Fr M a b)(o:Obj):Fr M a (b.alloc o):=
 ⟨h.os,h.tape,h.output,by have:=h.size;simp;omega,fun k aj hn=>(Below.heap_alloc b o k (Nat.lt_of_lt_of_le aj h.size)).trans (h.block k aj hn)⟩
theorem Fr.setCell(h:Fr M a b){p:Addr}(hp:M p.block∨a.heap.size≤p.block)(v:Value):Fr M a (b.setCell p v):=by
 refine⟨h.os,h.tape,h.output,by simpa using h.size,fun k aj hn=>?_⟩;have:k≠p.block:=by
  rintro rfl;rcases hp with hp|hp
  ·exact hn hp
  ·omega
 rw[Below.heap_setCell _ _ _ _ this];exact h.block k aj hn
theorem Fr.eW(h:Fr M a b)(k:Below a.heap.size b c):Fr M a c:=
 ⟨k.os.trans h.os,k.tape.trans h.tape,k.output.trans h.output,Nat.le_trans h.size k.size,fun i aN hn=>(k.block i aN).trans (h.block i aN hn)⟩
theorem Fr.grown{row:Option Nat}(h:Fr M a b)(aR:b.grownBy c row)(ba:∀g,row=some g→M g∨a.heap.size≤g):Fr M a c:=by
 refine⟨aR.os.trans h.os,aR.tape.trans h.tape,aR.output.trans h.output,Nat.le_trans h.size aR.size,fun k aj hn=>?_⟩;refine(aR.block k (Nat.lt_of_lt_of_le aj h.size) fun e=>?_).trans (h.block k aj hn);rcases ba k e.symm with ac|ac
 ·exact hn ac
 ·omega
theorem Fr.cell(h:Fr M a b){k j:Nat}(aj:k<a.heap.size)(hn:¬M k):b.cell? ⟨k,j,none⟩=a.cell? ⟨k,j,none⟩:=World.cell?_of_block (h.block k aj hn)
theorem Fr.frozen(h:Fr M a b){k j:Nat}(aj:k<a.heap.size)(hn:¬M k):b.frozen? ⟨k,j,none⟩=a.frozen? ⟨k,j,none⟩:=by
 simp only[World.frozen?,h.block k aj hn]
theorem Fr.two(h:Fr M a b):(∀k j,k<a.heap.size→¬M k→b.cell? ⟨k,j,none⟩=a.cell? ⟨k,j,none⟩)∧(∀k j,k<a.heap.size→¬M k→b.frozen? ⟨k,j,none⟩=a.frozen? ⟨k,j,none⟩):=
 ⟨fun _ _ aj hn=>h.cell aj hn,fun _ _ aj hn=>h.frozen aj hn⟩
theorem Fr.uk(h:Ext a b):(∀k j,k<a.heap.size→b.cell? ⟨k,j,none⟩=a.cell? ⟨k,j,none⟩)∧(∀k j,k<a.heap.size→b.frozen? ⟨k,j,none⟩=a.frozen? ⟨k,j,none⟩):=
 ⟨fun _ _ aj=>h.cell aj (fun h=>h),fun _ _ aj=>h.frozen aj (fun h=>h)⟩
theorem Fr.twod(h:Fr M a.drew b):(∀k j,k<a.heap.size→¬M k→b.cell? ⟨k,j,none⟩=a.cell? ⟨k,j,none⟩)∧(∀k j,k<a.heap.size→¬M k→b.frozen? ⟨k,j,none⟩=a.frozen? ⟨k,j,none⟩):=
 ⟨fun _ _ aj hn=>h.cell aj hn,fun _ _ aj hn=>h.frozen aj hn⟩
theorem Fr.IT(h:Ext a.drew b):(∀k j,k<a.heap.size→b.cell? ⟨k,j,none⟩=a.cell? ⟨k,j,none⟩)∧(∀k j,k<a.heap.size→b.frozen? ⟨k,j,none⟩=a.frozen? ⟨k,j,none⟩):=
 ⟨fun _ _ aj=>h.cell aj (fun h=>h),fun _ _ aj=>h.frozen aj (fun h=>h)⟩
theorem Fr.jF(h:Ext a.drew.drew b):(∀k j,k<a.heap.size→b.cell? ⟨k,j,none⟩=a.cell? ⟨k,j,none⟩)∧(∀k j,k<a.heap.size→b.frozen? ⟨k,j,none⟩=a.frozen? ⟨k,j,none⟩):=
 ⟨fun _ _ aj=>h.cell aj (fun h=>h),fun _ _ aj=>h.frozen aj (fun h=>h)⟩
theorem Fr.K2(h:Fr M a.drew.drew b):(∀k j,k<a.heap.size→¬M k→b.cell? ⟨k,j,none⟩=a.cell? ⟨k,j,none⟩)∧(∀k j,k<a.heap.size→¬M k→b.frozen? ⟨k,j,none⟩=a.frozen? ⟨k,j,none⟩):=
 ⟨fun _ _ aj hn=>h.cell aj hn,fun _ _ aj hn=>h.frozen aj hn⟩
theorem Fr.aF(h:Fr M a.drew b):Fr M a b:=⟨h.os,h.tape,h.output,h.size,h.block⟩
end
abbrev off(M:Nat→Prop)(w:World):Nat→Prop:=fun b=>b<w.heap.size∧¬M b
section
variable {M:Nat→Prop} {w ab:World}
theorem vo(h:Fr M w ab):∀b,off M w b→off M ab b:=fun _ O=>⟨Nat.lt_of_lt_of_le O.1 h.size,O.2⟩
theorem D.cD{d:D}{cs:List Value}(h:d.rep w (off M w) cs)(O:Fr M w ab):d.rep ab (off M ab) cs:=
 D.aM (vo O) _ _ (D.aO (fun b ap=>O.block b ap.1 ap.2) _ _ h)
theorem Sl.cD{A:NH}{n:Nat}{l:List D}(h:Sl w (off M w) A n l)(O:Fr M w ab):Sl ab (off M ab) A n l:=
 (h.ak (fun b ap=>O.block b ap.1 ap.2)).mono (vo O)
end
def an(w:World)(g:Nat)(t:TypeId)(cs:Array Value):Prop:=w.heap[g]?=some (.cells cs t (0,0))
section
variable {w ab:World} {g:Nat} {t:TypeId} {cs:Array Value} {M:Nat→Prop}
theorem an.lt(h:an w g t cs):g<w.heap.size:=by
 rcases Nat.lt_or_ge g w.heap.size with ap|bd
 ·exact ap
 ·unfold an at h;rw[Array.getElem?_eq_none bd] at h;cases h
theorem an.cell(h:an w g t cs)(i:Nat):w.cell? ⟨g,i,none⟩=cs[i]?:=cell_of_row w g i cs t (0,0) h
theorem an.frozen(h:an w g t cs)(i:Nat):w.frozen? ⟨g,i,none⟩=false:=by
 unfold an at h;simp[World.frozen?,h]
theorem an.two(h:an w g t cs):(∀i,w.cell? ⟨g,i,none⟩=cs[i]?)∧(∀i,w.frozen? ⟨g,i,none⟩=false)∧g<w.heap.size:=⟨h.cell,h.frozen,h.lt⟩
theorem an.new(w:World)(t:TypeId)(cs:Array Value):an (w.alloc (.cells cs t)) w.heap.size t cs:=heap_alloc_new w _
theorem an.gF(w:World)(t:TypeId)(cs:Array Value)(aR:g=w.heap.size):an (w.alloc (.cells cs t)) g t cs:=by
 subst aR;exact heap_alloc_new w _
theorem an.drew(h:an w g t cs):an w.drew g t cs:=h
theorem an.alloc(h:an w g t cs)(o:Obj):an (w.alloc o) g t cs:=(Below.heap_alloc w o g h.lt).trans h
theorem an.aK(h:an w g t cs)(i:Nat)(u:Value):an (w.setCell ⟨g,i,none⟩ u) g t (cs.setIfInBounds i u):=by
 unfold an at h ⊢;simp[World.setCell,Array.getElem?_modify,h]
theorem an.Lj(h:an w g t cs){p:Addr}(hp:g≠p.block)(u:Value):an (w.setCell p u) g t cs:=(Below.heap_setCell w p u g hp).trans h
theorem an.below{B:Nat}(h:an w g t cs)(O:Below B w ab)(aR:g<B):an ab g t cs:=(O.block g aR).trans h
theorem an.on(h:an w g t cs)(O:Fr M w ab)(aR:¬M g):an ab g t cs:=(O.block g h.lt aR).trans h
theorem an.aj(h:an w g t cs)(O:Ext w ab):an ab g t cs:=(O.block g h.lt fun h=>h).trans h
theorem an.grown{row:Option Nat}(h:an w g t cs)(O:w.grownBy ab row)(aR:some g≠row):an ab g t cs:=(O.block g h.lt aR).trans h
end
theorem PU:(∀(t:Array Value) (d:List Deferred) (i:Nat) (v:Value),Act.put ⟨t,d⟩ (some i) v=⟨t.setIfInBounds i v,d⟩)∧(∀(l:List Value) (i:Nat) (v:Value),l.toArray.setIfInBounds i v=(l.set i v).toArray)∧(∀(x v:Value) (l:List Value),(x::l).set 0 v=v::l)∧(∀(x v:Value) (l:List Value) (i:Nat),(x::l).set (i+1) v=x::l.set i v)∧
  (∀(l:List Oper) (i:Nat) (h:i<l.toArray.size),l.toArray[i]'h=l[i]'(by simpa using h))∧(∀(x:Oper) (l:List Oper) (h:0<(x::l).length),(x::l)[0]'h=x)∧(∀(x:Oper) (l:List Oper) (i:Nat) (h:i+1<(x::l).length),(x::l)[i+1]'h=l[i]'(by simpa using h)):=
 ⟨fun _ _ _ _=>rfl,fun _ _ _=>by simp,fun _ _ _=>rfl,fun _ _ _ _=>rfl,fun _ _ _=>by simp,fun _ _ _=>rfl,fun _ _ _ _=>rfl⟩
section
variable {P:Program} {ops:Array Oper} {Q:Exit→Act→World→Prop} {R:World→World→Prop} {M:Nat→Prop} {tails:List Nat} {i:Nat} {o:Oper} {v:Value} {a r:Act} {w:World}
theorem pf{rest:List (Nat×Nat)}(h:ca P ops Q R rest r w)(aN:ops[i]?=some o:=by rfl)(hw:Region.wanted o (yielded ops a.tmps)=true:=by rfl)(bK:∀V,(execOp a.eval o).run P V=.ok (.value v) V:=by intro V;(go_simp<;>with_reducible rfl))(bg:a.put o.dst v=r:=by (simp only[PU];rfl)) :
  ca P ops Q R ((i,3)::rest) a w:=bt aN hw bK (bg▸h)
theorem tf{rest:PT}(h:cY P ops Q R tails rest r w)(aN:ops[i]?=some o:=by rfl)(hw:Region.wanted o (yielded ops a.tmps)=true:=by rfl)(bK:∀V,(execOp a.eval o).run P V=.ok (.value v) V:=by intro V;(go_simp<;>with_reducible rfl))(bg:a.put o.dst v=r:=by (simp only[PU];rfl)) :
  cY P ops Q R tails (.free i rest) a w:=lO aN hw bK (bg▸h)
theorem ph{rest:List (Nat×Nat)}(h:ca P ops Q R rest r w)(aN:ops[i]?=some o:=by rfl)(hw:Region.wanted o (yielded ops a.tmps)=true:=by rfl)(bK:∀V,R w V→(execOp a.eval o).run P V=.ok (.value v) V:=by intro V hV;obtain⟨hVc,hVf⟩:=Fr.IT hV;(go_simp<;>with_reducible rfl))(bg:a.put o.dst v=r:=by (simp only[PU];rfl)) :
  ca P ops Q R ((i,0)::rest) a w:=bS aN hw bK (bg▸h)
theorem th{rest:PT}(h:cY P ops Q R tails rest r w)(aN:ops[i]?=some o:=by rfl)(hw:Region.wanted o (yielded ops a.tmps)=true:=by rfl)(bK:∀V,R w V→(execOp a.eval o).run P V=.ok (.value v) V:=by intro V hV;obtain⟨hVc,hVf⟩:=Fr.IT hV;(go_simp<;>with_reducible rfl))(bg:a.put o.dst v=r:=by (simp only[PU];rfl)) :
  cY P ops Q R tails (.held i rest) a w:=cB aN hw bK (bg▸h)
theorem K6{rest:List (Nat×Nat)}(h:ca P ops Q R rest r w)(aN:ops[i]?=some o:=by rfl)(hw:Region.wanted o (yielded ops a.tmps)=true:=by rfl)(bK:∀V,R w V→(execOp a.eval o).run P V=.ok (.value v) V:=by intro V hV;obtain⟨hVc,hVf⟩:=Fr.uk hV;(go_simp<;>with_reducible rfl))(bg:a.put o.dst v=r:=by (simp only[PU];rfl)) :
  ca P ops Q R ((i,0)::rest) a w:=bS aN hw bK (bg▸h)
theorem oP{rest:List (Nat×Nat)}(h:ca P ops Q R rest r w)(aN:ops[i]?=some o:=by rfl)(hw:Region.wanted o (yielded ops a.tmps)=true:=by rfl)(bK:∀V,R w V→(execOp a.eval o).run P V=.ok (.value v) V:=by intro V hV;obtain⟨hVc,hVf⟩:=Fr.twod hV;(go_simp<;>with_reducible rfl))(bg:a.put o.dst v=r:=by (simp only[PU];rfl)) :
  ca P ops Q R ((i,0)::rest) a w:=bS aN hw bK (bg▸h)
theorem pd{rest:PT}(h:cY P ops Q R tails rest r w)(aN:ops[i]?=some o:=by rfl)(hw:Region.wanted o (yielded ops a.tmps)=true:=by rfl)(bK:∀V,R w V→(execOp a.eval o).run P V=.ok (.value v) V:=by intro V hV;obtain⟨hVc,hVf⟩:=Fr.twod hV;(go_simp<;>with_reducible rfl))(bg:a.put o.dst v=r:=by (simp only[PU];rfl)) :
  cY P ops Q R tails (.held i rest) a w:=cB aN hw bK (bg▸h)
theorem Mn{rest:List (Nat×Nat)}(h:ca P ops Q R rest r w)(aN:ops[i]?=some o:=by rfl)(hw:Region.wanted o (yielded ops a.tmps)=true:=by rfl)(bK:∀V,R w V→(execOp a.eval o).run P V=.ok (.value v) V:=by intro V hV;obtain⟨hVc,hVf⟩:=Fr.two hV;(go_simp<;>with_reducible rfl))(bg:a.put o.dst v=r:=by (simp only[PU];rfl)) :
  ca P ops Q R ((i,0)::rest) a w:=bS aN hw bK (bg▸h)
theorem L2{rest:PT}(h:cY P ops Q R tails rest r w)(aN:ops[i]?=some o:=by rfl)(hw:Region.wanted o (yielded ops a.tmps)=true:=by rfl)(bK:∀V,R w V→(execOp a.eval o).run P V=.ok (.value v) V:=by intro V hV;obtain⟨hVc,hVf⟩:=Fr.two hV;(go_simp<;>with_reducible rfl))(bg:a.put o.dst v=r:=by (simp only[PU];rfl)) :
  cY P ops Q R tails (.held i rest) a w:=cB aN hw bK (bg▸h)
theorem Hh{rest:List (Nat×Nat)}(h:ca P ops Q R rest r w)(aN:ops[i]?=some o:=by rfl)(hw:Region.wanted o (yielded ops a.tmps)=true:=by rfl)(bK:∀V,R w V→(execOp a.eval o).run P V=.ok (.value v) V:=by intro V hV;obtain⟨hVc,hVf⟩:=Fr.K2 hV;(go_simp<;>with_reducible rfl))(bg:a.put o.dst v=r:=by (simp only[PU];rfl)) :
  ca P ops Q R ((i,0)::rest) a w:=bS aN hw bK (bg▸h)
theorem rS{ab:World}{rest:List (Nat×Nat)}{M:Nat→Prop}(h:ca P ops Q (Fr M) rest r ab)(aN:ops[i]?=some o:=by rfl)(hx:∀K:Act→World→Prop,K r ab→if Region.wanted o (yielded ops a.tmps)=true then o.wp P a w K Q else K (a.put o.dst undef) w:=by (intro K hK;go_simp;(try simp only[PU] at hK ⊢);exact hK))(cx:Fr M w ab:=by exact(Fr.refl _ _).alloc _) :
  ca P ops Q (Fr M) ((i,1)::rest) a w:=aE aN fun K hK=>hx K (hK _ _ cx h)
theorem ep{ab:World}{p:PT}{M:Nat→Prop}(h:cY P ops Q (Fr M) tails p r ab)(aN:ops[i]?=some o:=by rfl)(hx:∀K:Act→World→Prop,K r ab→if Region.wanted o (yielded ops a.tmps)=true then o.wp P a w K Q else K (a.put o.dst undef) w:=by (intro K hK;go_simp;(try simp only[PU] at hK ⊢);exact hK))(cx:Fr M w ab:=by exact(Fr.refl _ _).alloc _)(hT:tails.contains i=false:=by rfl) :
  oX P ops Q (Fr M) tails i p a w:=aD aN (fun K hK=>hx K (hK _ _ cx h)) hT
end
section
variable {P:Program} {ops:Array Oper} {Q:Exit→Act→World→Prop} {M:Nat→Prop} {id:Nat} {a:Act} {w:World}
theorem eJ(M:Nat→Prop)(e:List (Nat×Nat))(h:ca P ops Q (Fr M) e a w.drew)(ac:P.follows .mixedOrders=true:=by kernel_rfl)(az:xB .any ops e=true:=by kernel_rfl)(bv:∀c a d v w,Q (.panic c) (a.put d v) w→Q (.panic c) a w:=by (intro _ _ d _ _ h;first|(cases d<;>exact h)|exact hQ0 _ _ _ _ _ h)):(Code.region id ops true).wp P Q a w:=
 ld (Fr M) e ac az (Fr.refl _) (fun _ _ _ h k=>h.trans k) bv h
theorem sK(M:Nat→Prop)(tails:List Nat)(p:PT)(h:cY P ops Q (Fr M) tails p a w.drew)(ac:P.follows .mixedOrders=true:=by kernel_rfl)(az:x0 .any ops tails p=true:=by kernel_rfl)(bv:∀c a d v w,Q (.panic c) (a.put d v) w→Q (.panic c) a w:=by (intro _ _ d _ _ h;first|(cases d<;>exact h)|exact hQ0 _ _ _ _ _ h)):(Code.region id ops true).wp P Q a w:=
 rB (Fr M) tails p ac az (Fr.refl _) (fun _ _ _ h k=>h.trans k) bv h
end
theorem dB{K:Act→World→Prop}{c:World→Prop}{b:Act→World→Prop}{a r:Act}{ab:World}(hK:∀r ab,c ab→b r ab→K r ab)(cx:c ab)(h:b r ab)(e:a=r:=by ((try simp only[PU]);rfl)):K a ab:=hK _ _ cx (e▸h)
theorem dY{K:Act→World→Prop}{b:Act→World→Prop}{a r:Act}{ab:World}(hK:∀r ab,b r ab→K r ab)(h:b r ab)(e:a=r:=by ((try simp only[PU]);rfl)):K a ab:=hK _ _ (e▸h)
end Go.Proofs.YtnigabjngpnbiabGreat
