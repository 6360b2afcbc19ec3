/- Part 0 of the proof. No condition of its own. -/
import Derived.Deep.Draws
import Derived.Maps.AppendAt
import Derived.OrdersHeld
import Derived.StillTail
import Derived.Test.YtkhnkojkplbioaaGreatRows
import Derived.WalkKit
import Derived.WalkLawsBesides
import Derived.WalkSpells
namespace Go.Proofs.YtkhnkojkplbioaaGreat
open Go.RowKit Go.Proofs.Tryz
set_option maxRecDepth 1000000
set_option maxHeartbeats 25600000
set_option linter.unusedVariables false
abbrev L3:=Option Addr
abbrev L4:=List ByteArray
def L5(p:Prop):Prop:=p
theorem L5.o{p:Prop}(h:L5 p):p:=h
section
variable {P:Program} {ops:Array Oper} {Q:Exit→Act→World→Prop} {md:Region.Mode} {R:World→World→Prop} {T:Nat→Bool}
def ke(P:Program)(md:Region.Mode)(ops:Array Oper)(Q:Exit→Act→World→Prop)(R:World→World→Prop)(T:Nat→Bool):Nat→Array Bool→Act→World→Prop
 | 0,listed,a,w=>Region.ready md ops listed=[]∧Q .normal a w
 | fuel+1,listed,a,w=>
  (Region.ready md ops listed=[]→Q .normal a w)∧
  ∀i∈Region.ready md ops listed,wpOp P ops Q i (fun r ab=>(T i=true→R w ab)∧ke P md ops Q R T fuel (listed.setIfInBounds i true) r ab) a w
theorem mz:∀(fuel:Nat) (listed:Array Bool) (a:Act) (w:World),ke P md ops Q R T fuel listed a w→wpAny P md ops Q fuel listed a w
 | 0,_,_,_,h=>h
 | fuel+1,_,_,_,h=>⟨h.1,fun i an=>wpOp_mono (fun r ab F=>mz fuel _ r ab F.2) (h.2 i an)⟩
def jS(md:Region.Mode)(ops:Array Oper)(listed:Array Bool):Prop:=
 ∀j g,ops[j]?=some g→listed.getD j false=true→∀e∈g.after,Region.binds md e=true→listed.getD e.on false=true
theorem jS.set{i:Nat}{listed:Array Bool}(inv:jS md ops listed)(an:i∈Region.ready md ops listed):jS md ops (listed.setIfInBounds i true):=by
 obtain⟨_,p,bR,y⟩:=mem_ready.1 an;intro j g bi hl e he O;by_cases J:i=j
 ·subst J;have:g=p:=Option.some.inj (bi.symm.trans bR);subst this;exact getD_set_true (y e he O)
 ·rw[getD_set_ne false J] at hl;exact getD_set_true (inv j g bi hl e he O)
def DP(md:Region.Mode)(ops:Array Oper):Nat→Nat→Nat→Bool
 | 0,_,_=>false
 | f+1,j,i=>match ops[j]? with
  | none=>false
  | some g=>g.after.any fun e=>Region.binds md e && (e.on == i || DP md ops f e.on i)
theorem DQ{i:Nat}{listed:Array Bool}(inv:jS md ops listed):∀(f j:Nat),DP md ops f j i=true→
  (∃g,ops[j]?=some g∧∀e∈g.after,Region.binds md e=true→listed.getD e.on false=true)→listed.getD i false=true:=by
 intro f
 induction f with
 | zero=>intro j h;simp[DP] at h
 | succ f ao=>
  intro j h bi;obtain⟨g,bn,y⟩:=bi;simp only[DP,bn] at h;obtain⟨e,he,O⟩:=Array.any_eq_true'.1 h;simp only[Bool.and_eq_true,Bool.or_eq_true,beq_iff_eq] at O;have hl:=y e he O.1;rcases O.2 with au|au
  ·rw[←au];exact hl
  ·refine ao e.on au ?_
   cases ap:ops[e.on]? with
   | none=>cases f<;>simp[DP,ap] at au
   | some ok=>exact⟨ok,rfl,fun F a aT=>inv e.on ok ap hl F a aT⟩
theorem ie{i:Nat}{p:Oper}{v:Value}{U:World→World→Prop}(t:∀a b c,R a b→U b c→U a c)(l:∀a,R a a)(B:∀a,U a a)(an:ops[i]?=some p)(q:∀(j:Nat) (o:Oper) cs b,ops[j]?=some o→o.op≠.select cs b)
  (hQ:∀c a w,Q (.panic c) (a.put p.dst v) w→Q (.panic c) a w) (hT:(∀a b,U a b)∨∀j,T j=false→∃f,DP md ops f j i=true) :
  ∀(fuel:Nat) (listed:Array Bool) (a:Act) (w:World),jS md ops listed→
   (∀j g,ops[j]?=some g→j≠i→listed.getD j true=false→(∀e∈g.after,Region.binds md e=true→e.on≠i)→p.apart ops g=true)→
   i∈Region.ready md ops listed→YieldsIf P ops (U w) p v a→
   ke P md ops Q R T fuel (listed.setIfInBounds i true) (a.put p.dst v) w→ke P md ops Q R T (fuel+1) listed a w:=by
 intro fuel
 induction fuel with
 | zero=>
  intro listed a w _ _ ba bb H;refine⟨fun h=>(by rw[h] at ba;cases ba),fun j bi=>?_⟩;by_cases az:j=i
  ·subst az;exact bb.wpOp an (B w) ⟨fun _=>l w,H⟩
  ·have:=ready_mono bi az;rw[H.1] at this
   cases this
 | succ fuel ao=>
  intro listed a w inv Z ba bb H;refine⟨fun h=>(by rw[h] at ba;cases ba),fun j bi=>?_⟩;by_cases az:j=i
  ·subst az;exact bb.wpOp an (B w) ⟨fun _=>l w,H⟩
  ·have ac:=H.2 j (ready_mono bi az);obtain⟨x,g,u,y⟩:=mem_ready.1 bi;have n:=(mem_ready.1 ba).1;have A:∀e∈g.after,Region.binds md e=true→e.on≠i:=fun e he O heq=>by
    have ac:=y e he O;have h0:=n;rw[heq] at ac;rcases Nat.lt_or_ge i listed.size with F|F
    ·simp[F] at h0 ac;rw[h0] at ac;cases ac
    ·simp[Array.getElem?_eq_none F] at ac
   have m:(∀a b,U a b)∨T j=true:=by
    rcases hT with hT|hT
    ·exact .inl hT
    refine .inr ?_
    cases m:T j with
    | true=>rfl
    | false=>
     obtain⟨f,J⟩:=hT j m;have:=DQ inv f j J ⟨g,u,y⟩;rcases Nat.lt_or_ge i listed.size with F|F
     ·simp[F] at n this;rw[n] at this;cases this
     ·simp[Array.getElem?_eq_none F] at this
   have au:=wpOp_putIf (S:=U w) u (Z j g u az x A) (fun cs b=>q i p cs b an) (fun cs b=>q j g cs b u) hQ bb ac;have s:∀k ok,ops[k]?=some ok→k≠i→(listed.setIfInBounds j true).getD k true=false→
     (∀e∈ok.after,Region.binds md e=true→e.on≠i)→p.apart ops ok=true:=fun k ok ap D C cE=>by
    refine Z k ok ap D ?_ cE;by_cases z:j=k
    ·subst z;exact x
    ·rw[getD_set_ne true z] at C;exact C
   refine wpOp_mono (fun r ab aY=>?_) au;have d:YieldsIf P ops (U ab) p v r:=aY.1.imp (fun⟨hw,bG⟩=>⟨hw,fun V hV=>bG V (m.elim (fun h=>h _ _) fun h=>t _ _ _ (aY.2.1 h) hV)⟩) id;refine⟨aY.2.1,ao (listed.setIfInBounds j true) r ab (inv.set bi) s (ready_mono ba (Ne.symm az)) d ?_⟩;rw[Array.setIfInBounds_comm _ _ az];exact aY.2.2
def ca(P:Program)(ops:Array Oper)(Q:Exit→Act→World→Prop)(R:World→World→Prop):List (Nat×Nat)→Act→World→Prop
 | [],a,w=>Q .normal a w
 | (i,0)::rest,a,w=>∃o v,ops[i]?=some o∧YieldsIf P ops (R w) o v a∧ca P ops Q R rest (a.put o.dst v) w
 | (i,3)::rest,a,w=>∃o v,ops[i]?=some o∧YieldsIf P ops (fun _=>True) o v a∧ca P ops Q R rest (a.put o.dst v) w
 | (i,k+1)::rest,a,w=>∃o,ops[i]?=some o∧∀K:Act→World→Prop,(∀r ab,(k=0→R w ab)→ca P ops Q R rest r ab→K r ab)→
   (if Region.wanted o (yielded ops a.tmps)=true then o.wp P a w K Q else K (a.put o.dst undef) w)
def lN(md:Region.Mode)(ops:Array Oper):List (Nat×Nat)→Array Bool→Bool
 | [],listed=>(Region.ready md ops listed).isEmpty
 | (i,0)::rest,listed=>Region.free md ops listed i && (Region.ready md ops listed).contains i && lN md ops rest (listed.setIfInBounds i true)
 | (i,3)::rest,listed=>Region.free md ops listed i && (Region.ready md ops listed).contains i && lN md ops rest (listed.setIfInBounds i true)
 | (i,_+1)::rest,listed=>(Region.ready md ops listed == [i]) && lN md ops rest (listed.setIfInBounds i true)
def nc(e:List (Nat×Nat)):List Nat:=(e.filter fun p=>decide (2=p.2)).map (·.1)
def w2(md:Region.Mode)(ops:Array Oper)(e:List (Nat×Nat)):Bool:=
 Region.noSelect ops && (e.length == ops.size) && (e.all fun p=>decide (p.2≤3)) && (e.all fun p=>decide (p.2=1∨p.2=2∨p.2=3) || (nc e).all fun j=>DP md ops ops.size j p.1) && lN md ops e (Array.replicate ops.size false)
theorem iN(t:∀a b c,R a b→R b c→R a c)(l:∀a,R a a)(q:∀(j:Nat) (o:Oper) cs b,ops[j]?=some o→o.op≠.select cs b)
  (hQ:∀c a d v w,Q (.panic c) (a.put d v) w→Q (.panic c) a w) :
  ∀(e:List (Nat×Nat)) (listed:Array Bool) (a:Act) (w:World),jS md ops listed→lN md ops e listed=true→
   (∀p∈e,p.2=0→∀j,T j=false→∃f,DP md ops f j p.1=true)→(∀p∈e,2=p.2→T p.1=false)→(∀p∈e,p.2≤3)→
   ca P ops Q R e a w→ke P md ops Q R T e.length listed a w
 | [],listed,a,w,_,aR,_,_,_,h=>⟨by simpa[lN] using aR,h⟩
 | (i,0)::rest,listed,a,w,inv,aR,h0,au,aY,h=>by
  obtain⟨o,v,an,bb,h⟩:=h;simp only[lN,Bool.and_eq_true] at aR;have ba:i∈Region.ready md ops listed:=by simpa using aR.1.2
  exact ie (U:=R) t l l an q (fun c a w=>hQ c a _ _ w) (.inr (h0 (i,0) (by simp) rfl)) rest.length listed a w inv (Region.free_spec an aR.1.1) ba bb
   (iN t l q hQ rest _ _ _ (inv.set ba) aR.2 (fun p hp=>h0 p (by simp[hp])) (fun p hp=>au p (by simp[hp])) (fun p hp=>aY p (by simp[hp])) h)
 | (i,3)::rest,listed,a,w,inv,aR,h0,au,aY,h=>by
  obtain⟨o,v,an,bb,h⟩:=h;simp only[lN,Bool.and_eq_true] at aR;have ba:i∈Region.ready md ops listed:=by simpa using aR.1.2
  exact ie (U:=fun _ _=>True) (fun _ _ _ _ _=>trivial) l (fun _=>trivial) an q (fun c a w=>hQ c a _ _ w) (.inl fun _ _=>trivial) rest.length listed a w inv (Region.free_spec an aR.1.1) ba bb
   (iN t l q hQ rest _ _ _ (inv.set ba) aR.2 (fun p hp=>h0 p (by simp[hp])) (fun p hp=>au p (by simp[hp])) (fun p hp=>aY p (by simp[hp])) h)
 | (i,1)::rest,listed,a,w,inv,aR,h0,au,aY,h=>by
  obtain⟨o,an,h⟩:=h;simp only[lN,Bool.and_eq_true,beq_iff_eq] at aR;have ba:i∈Region.ready md ops listed:=by rw[aR.1];simp
  refine⟨fun h0=>(by rw[h0] at ba;cases ba),fun j bi=>?_⟩;rw[aR.1] at bi;have az:j=i:=by simpa using bi
  subst az;have g:=h (fun r ab=>(T j=true→R w ab)∧ke P md ops Q R T rest.length (listed.setIfInBounds j true) r ab) fun r ab cB hp=>
   ⟨fun hT=>cB rfl,iN t l q hQ rest _ _ _ (inv.set ba) aR.2 (fun p hp=>h0 p (by simp[hp])) (fun p hp=>au p (by simp[hp])) (fun p hp=>aY p (by simp[hp])) hp⟩
  unfold Go.wpOp;simp only[an];split
  ·rename_i hw;rw[if_pos hw] at g;exact .inl g
  ·rename_i hw;rw[if_neg hw] at g
   exact g
 | (i,2)::rest,listed,a,w,inv,aR,h0,au,aY,h=>by
  obtain⟨o,an,h⟩:=h;simp only[lN,Bool.and_eq_true,beq_iff_eq] at aR;have ba:i∈Region.ready md ops listed:=by rw[aR.1];simp
  refine⟨fun h0=>(by rw[h0] at ba;cases ba),fun j bi=>?_⟩;rw[aR.1] at bi;have az:j=i:=by simpa using bi
  subst az;have m:T j=false:=au (j,2) (by simp) rfl;have g:=h (fun r ab=>(T j=true→R w ab)∧ke P md ops Q R T rest.length (listed.setIfInBounds j true) r ab) fun r ab _ hp=>
   ⟨fun hT=>(by rw[m] at hT;cases hT),iN t l q hQ rest _ _ _ (inv.set ba) aR.2 (fun p hp=>h0 p (by simp[hp])) (fun p hp=>au p (by simp[hp])) (fun p hp=>aY p (by simp[hp])) hp⟩
  unfold Go.wpOp;simp only[an];split
  ·rename_i hw;rw[if_pos hw] at g;exact .inl g
  ·rename_i hw;rw[if_neg hw] at g
   exact g
 | (i,k+4)::rest,listed,a,w,inv,aR,h0,au,aY,h=>absurd (aY (i,k+4) (by simp)) (by simp)
theorem kU(R:World→World→Prop)(e:List (Nat×Nat)){id:Nat}{a:Act}{w:World}(hm:P.follows .mixedOrders=true)(aR:w2 .any ops e=true)
  (l:∀a,R a a) (t:∀a b c,R a b→R b c→R a c) (hQ:∀c a d v w,Q (.panic c) (a.put d v) w→Q (.panic c) a w)
  (h:ca P ops Q R e a w.drew):(Code.region id ops true).wp P Q a w:=by
 simp only[w2,Bool.and_eq_true,beq_iff_eq] at aR;obtain⟨⟨⟨⟨hs,hl⟩,aY⟩,ht⟩,hp⟩:=aR;refine wp_region_any hm (mz (R:=R) (T:=fun j=>!(nc e).contains j) _ _ _ _ ?_);rw[←hl];refine iN t l (Region.noSelect_spec hs) hQ e _ a _ (fun j g _ bi=>?_) (by rw[hl];exact hp) (fun p eT m j bi=>?_) (fun p eT s=>?_) (fun p eT=>?_) h
 ·rw[getD_replicate_false] at bi;cases bi
 ·have ac:=List.all_eq_true.1 ht p eT;rw[m] at ac;have f:j∈nc e:=by simpa using bi
  have au:((nc e).all fun j=>DP .any ops ops.size j p.1)=true:=by simpa using ac
  exact⟨_,List.all_eq_true.1 au j f⟩
 ·have:p.1∈nc e:=List.mem_map.2 ⟨p,List.mem_filter.2 ⟨eT,by simpa using s⟩,rfl⟩;simpa using this
 ·exact List.all_eq_true.1 aY p eT |> of_decide_eq_true
theorem bS{i:Nat}{o:Oper}{v:Value}{rest:List (Nat×Nat)}{a:Act}{w:World}(an:ops[i]?=some o)(hw:Region.wanted o (yielded ops a.tmps)=true)
  (bG:∀V,R w V→(execOp a.eval o).run P V=.ok (.value v) V) (h:ca P ops Q R rest (a.put o.dst v) w):ca P ops Q R ((i,0)::rest) a w:=
 ⟨o,v,an,.inl ⟨hw,bG⟩,h⟩
theorem iq{i:Nat}{o:Oper}{rest:List (Nat×Nat)}{a:Act}{w:World}(an:ops[i]?=some o)(hw:Region.wanted o (yielded ops a.tmps)=false)
  (h:ca P ops Q R rest (a.put o.dst undef) w):ca P ops Q R ((i,0)::rest) a w:=
 ⟨o,undef,an,.inr ⟨hw,rfl⟩,h⟩
theorem bu{i:Nat}{o:Oper}{v:Value}{rest:List (Nat×Nat)}{a:Act}{w:World}(an:ops[i]?=some o)(hw:Region.wanted o (yielded ops a.tmps)=true)
  (bG:∀V,(execOp a.eval o).run P V=.ok (.value v) V) (h:ca P ops Q R rest (a.put o.dst v) w):ca P ops Q R ((i,3)::rest) a w:=
 ⟨o,v,an,.inl ⟨hw,fun V _=>bG V⟩,h⟩
theorem dr{i:Nat}{o:Oper}{rest:List (Nat×Nat)}{a:Act}{w:World}(an:ops[i]?=some o)(hw:Region.wanted o (yielded ops a.tmps)=false)
  (h:ca P ops Q R rest (a.put o.dst undef) w):ca P ops Q R ((i,3)::rest) a w:=
 ⟨o,undef,an,.inr ⟨hw,rfl⟩,h⟩
theorem aG{i:Nat}{o:Oper}{rest:List (Nat×Nat)}{a:Act}{w:World}(an:ops[i]?=some o)
  (h:∀K:Act→World→Prop,(∀r ab,R w ab→ca P ops Q R rest r ab→K r ab)→if Region.wanted o (yielded ops a.tmps)=true then o.wp P a w K Q else K (a.put o.dst undef) w) :
  ca P ops Q R ((i,1)::rest) a w:=
 ⟨o,an,fun K hK=>h K fun r ab cB hp=>hK r ab (fun _=>cB) hp⟩
theorem ax{i:Nat}{o:Oper}{rest:List (Nat×Nat)}{a:Act}{w:World}(an:ops[i]?=some o)
  (h:∀K:Act→World→Prop,(∀r ab,ca P ops Q R rest r ab→K r ab)→if Region.wanted o (yielded ops a.tmps)=true then o.wp P a w K Q else K (a.put o.dst undef) w) :
  ca P ops Q R ((i,2)::rest) a w:=
 ⟨o,an,fun K hK=>h K fun r ab hp=>hK r ab (fun h=>absurd h (by decide)) hp⟩
theorem aC{a:Act}{w:World}(h:Q .normal a w):ca P ops Q R [] a w:=h
end
inductive PT where
 | stop
 | free (i:Nat) (rest:PT)
 | held (i:Nat) (rest:PT)
 | pick (is:List Nat) (f:Nat→PT)
section
variable {P:Program} {ops:Array Oper} {Q:Exit→Act→World→Prop} {md:Region.Mode} {R:World→World→Prop}
def cR(P:Program)(ops:Array Oper)(Q:Exit→Act→World→Prop)(R:World→World→Prop)(tails:List Nat):PT→Act→World→Prop
 | .stop,a,w=>Q .normal a w
 | .free i rest,a,w=>∃o v,ops[i]?=some o∧YieldsIf P ops (fun _=>True) o v a∧cR P ops Q R tails rest (a.put o.dst v) w
 | .held i rest,a,w=>∃o v,ops[i]?=some o∧YieldsIf P ops (R w) o v a∧cR P ops Q R tails rest (a.put o.dst v) w
 | .pick is f,a,w=>∀i∈is,∃o,ops[i]?=some o∧∀K:Act→World→Prop,(∀r ab,(tails.contains i=false→R w ab)→cR P ops Q R tails (f i) r ab→K r ab)→
   (if Region.wanted o (yielded ops a.tmps)=true then o.wp P a w K Q else K (a.put o.dst undef) w)
def ni(md:Region.Mode)(ops:Array Oper):PT→Nat→Array Bool→Bool
 | .stop,n,listed=>n == 0 && (Region.ready md ops listed).isEmpty
 | .free i rest,n,listed=>decide (0<n) && (Region.free md ops listed i && (Region.ready md ops listed).contains i && ni md ops rest (n - 1) (listed.setIfInBounds i true))
 | .held i rest,n,listed=>decide (0<n) && (Region.free md ops listed i && (Region.ready md ops listed).contains i && ni md ops rest (n - 1) (listed.setIfInBounds i true))
 | .pick is f,n,listed=>decide (0<n) && (!is.isEmpty && (Region.ready md ops listed == is) && is.all fun i=>ni md ops (f i) (n - 1) (listed.setIfInBounds i true))
def PT.oj:PT→List Nat
 | .stop=>[]
 | .free _ rest=>rest.oj
 | .held i rest=>i::rest.oj
 | .pick is f=>is.flatMap fun i=>(f i).oj
def xn(md:Region.Mode)(ops:Array Oper)(tails:List Nat)(p:PT):Bool:=
 Region.noSelect ops && (p.oj.all fun i=>tails.all fun j=>DP md ops ops.size j i) && ni md ops p ops.size (Array.replicate ops.size false)
theorem xt(tails:List Nat)(t:∀a b c,R a b→R b c→R a c)(l:∀a,R a a)(q:∀(j:Nat) (o:Oper) cs b,ops[j]?=some o→o.op≠.select cs b)
  (hQ:∀c a d v w,Q (.panic c) (a.put d v) w→Q (.panic c) a w) :
  ∀(p:PT) (n:Nat) (listed:Array Bool) (a:Act) (w:World),jS md ops listed→ni md ops p n listed=true→
   (∀i∈p.oj,∀j∈tails,∃f,DP md ops f j i=true)→cR P ops Q R tails p a w→ke P md ops Q R (fun j=>!tails.contains j) n listed a w:=by
 intro p
 induction p with
 | stop=>
  intro n listed a w _ aR _ h;simp only[ni,Bool.and_eq_true,beq_iff_eq] at aR;obtain⟨rfl,aR⟩:=aR
  exact⟨by simpa using aR,h⟩
 | free i rest ao=>
  intro n listed a w inv aR ah h;obtain⟨o,v,an,bb,h⟩:=h;simp only[ni,Bool.and_eq_true,decide_eq_true_eq] at aR;obtain⟨hn,⟨J,hc⟩,aR⟩:=aR;obtain⟨m,rfl⟩:∃m,n=m+1:=⟨n - 1,by omega⟩
  have ba:i∈Region.ready md ops listed:=by simpa using hc
  exact ie (U:=fun _ _=>True) (fun _ _ _ _ _=>trivial) l (fun _=>trivial) an q (fun c a w=>hQ c a _ _ w) (.inl fun _ _=>trivial) m listed a w inv (Region.free_spec an J) ba bb
   (ao m _ _ _ (inv.set ba) aR ah h)
 | held i rest ao=>
  intro n listed a w inv aR ah h;obtain⟨o,v,an,bb,h⟩:=h;simp only[ni,Bool.and_eq_true,decide_eq_true_eq] at aR;obtain⟨hn,⟨J,hc⟩,aR⟩:=aR;obtain⟨m,rfl⟩:∃m,n=m+1:=⟨n - 1,by omega⟩
  have ba:i∈Region.ready md ops listed:=by simpa using hc
  refine ie (U:=R) t l l an q (fun c a w=>hQ c a _ _ w) (.inr fun j bi=>ah i (by simp[PT.oj]) j (by simpa using bi)) m listed a w inv (Region.free_spec an J) ba bb
   (ao m _ _ _ (inv.set ba) aR (fun i an=>ah i (by simp[PT.oj,an])) h)
 | pick is f ao=>
  intro n listed a w inv aR ah h;simp only[ni,Bool.and_eq_true,decide_eq_true_eq,beq_iff_eq] at aR;obtain⟨hn,⟨he,ba⟩,aR⟩:=aR;obtain⟨m,rfl⟩:∃m,n=m+1:=⟨n - 1,by omega⟩
  by_cases bf:is=[]
  ·subst bf;simp at he
  ·refine⟨fun h0=>absurd (by rw[←ba];exact h0) bf,fun j bi=>?_⟩;have e:=bi;rw[ba] at bi;obtain⟨o,an,h⟩:=h j bi;have g:=h (fun r ab=>((fun j=>!tails.contains j) j=true→R w ab)∧ke P md ops Q R (fun j=>!tails.contains j) m (listed.setIfInBounds j true) r ab) fun r ab cB hp=>
    ⟨fun hT=>cB (by simpa using hT),ao j m _ _ _ (inv.set e) (by simpa using List.all_eq_true.1 aR j bi) (fun i an=>ah i (by simp only[PT.oj,List.mem_flatMap];exact⟨j,bi,an⟩)) hp⟩
   unfold Go.wpOp;simp only[an];split
   ·rename_i hw;rw[if_pos hw] at g;exact .inl g
   ·rename_i hw;rw[if_neg hw] at g;exact g
theorem ra(R:World→World→Prop)(tails:List Nat)(p:PT){id:Nat}{a:Act}{w:World}(hm:P.follows .mixedOrders=true)(aR:xn .any ops tails p=true)
  (l:∀a,R a a) (t:∀a b c,R a b→R b c→R a c) (hQ:∀c a d v w,Q (.panic c) (a.put d v) w→Q (.panic c) a w)
  (h:cR P ops Q R tails p a w.drew):(Code.region id ops true).wp P Q a w:=by
 simp only[xn,Bool.and_eq_true] at aR;obtain⟨⟨hs,bz⟩,hp⟩:=aR;refine wp_region_any hm (mz (R:=R) (T:=fun j=>!tails.contains j) _ _ _ _ ?_);refine xt tails t l (Region.noSelect_spec hs) hQ p ops.size _ a _ (fun j g _ bi=>?_) hp (fun i an j bi=>?_) h
 ·rw[getD_replicate_false] at bi;cases bi
 ·have ac:=List.all_eq_true.1 bz i an;exact⟨_,List.all_eq_true.1 ac j bi⟩
variable {tails:List Nat}
theorem cz{i:Nat}{o:Oper}{v:Value}{rest:PT}{a:Act}{w:World}(an:ops[i]?=some o)(hw:Region.wanted o (yielded ops a.tmps)=true)
  (bG:∀V,R w V→(execOp a.eval o).run P V=.ok (.value v) V) (h:cR P ops Q R tails rest (a.put o.dst v) w):cR P ops Q R tails (.held i rest) a w:=
 ⟨o,v,an,.inl ⟨hw,bG⟩,h⟩
theorem lx{i:Nat}{o:Oper}{v:Value}{rest:PT}{a:Act}{w:World}(an:ops[i]?=some o)(hw:Region.wanted o (yielded ops a.tmps)=true)
  (bG:∀V,(execOp a.eval o).run P V=.ok (.value v) V) (h:cR P ops Q R tails rest (a.put o.dst v) w):cR P ops Q R tails (.free i rest) a w:=
 ⟨o,v,an,.inl ⟨hw,fun V _=>bG V⟩,h⟩
def oI(P:Program)(ops:Array Oper)(Q:Exit→Act→World→Prop)(R:World→World→Prop)(tails:List Nat)(i:Nat)(p:PT)(a:Act)(w:World):Prop:=
 ∃o,ops[i]?=some o∧∀K:Act→World→Prop,(∀r ab,(tails.contains i=false→R w ab)→cR P ops Q R tails p r ab→K r ab)→
   (if Region.wanted o (yielded ops a.tmps)=true then o.wp P a w K Q else K (a.put o.dst undef) w)
theorem aB{i:Nat}{o:Oper}{p:PT}{a:Act}{w:World}(an:ops[i]?=some o)
  (h:∀K:Act→World→Prop,(∀r ab,R w ab→cR P ops Q R tails p r ab→K r ab)→if Region.wanted o (yielded ops a.tmps)=true then o.wp P a w K Q else K (a.put o.dst undef) w)
  (hT:tails.contains i=false):oI P ops Q R tails i p a w:=⟨o,an,fun K hK=>h K fun r ab cB=>hK r ab fun _=>cB⟩
theorem bQ{i:Nat}{o:Oper}{p:PT}{a:Act}{w:World}(an:ops[i]?=some o)
  (h:∀K:Act→World→Prop,(∀r ab,cR P ops Q R tails p r ab→K r ab)→if Region.wanted o (yielded ops a.tmps)=true then o.wp P a w K Q else K (a.put o.dst undef) w)
  (hT:tails.contains i=true):oI P ops Q R tails i p a w:=⟨o,an,fun K hK=>h K fun r ab hp=>hK r ab (fun h=>by rw[hT] at h;cases h) hp⟩
theorem ao{i:Nat}{f:Nat→PT}{a:Act}{w:World}(h:oI P ops Q R tails i (f i) a w):cR P ops Q R tails (.pick [i] f) a w:=fun j bi=>by
 have:j=i:=by simpa using bi
 subst this;exact h
theorem a2{i j:Nat}{f:Nat→PT}{a:Act}{w:World}(h:oI P ops Q R tails i (f i) a w)(au:oI P ops Q R tails j (f j) a w):cR P ops Q R tails (.pick [i,j] f) a w:=fun k ap=>by
 simp only[List.mem_cons,List.not_mem_nil,or_false] at ap;rcases ap with rfl|rfl
 ·exact h
 ·exact au
theorem b9{a:Act}{w:World}(h:Q .normal a w):cR P ops Q R tails .stop a w:=h
theorem ly{rest:PT}{aa:Nat→Act}{C:Nat→World→Prop}{G:Prop}(h:(∀g V,C g V→cR P ops Q R tails rest (aa g) V)→G)(key:∀g V,C g V→cR P ops Q R tails rest (aa g) V):G:=h key
end
theorem ae{p:Prop}(h:p):L5 p:=h
theorem wG{a b:Int}{k:IntKind}(h:a=b):Value.int k a=Value.int k b:=by rw[h]
theorem ret_int{a b:Int}{k:IntKind}(h:a=b):Ending.returned (.int k a)=.returned (.int k b):=by rw[h]
theorem ret_bool{a b:Bool}(h:a=b):Ending.returned (.bool a)=.returned (.bool b):=by rw[h]
theorem a1{α:Type}{l:List α}{k:Nat}{x:α}(h:l[k]?=some x):l.take (k+1)=l.take k++[x]:=by
 rw[List.take_add_one,h];rfl
theorem FZ(x y:Int):(if y > x then y else x)=max x y:=by
 by_cases h:x≤y<;>simp[Int.max_def,h]<;>omega
theorem F0(x y:Int):(if y<x then y else x)=min x y:=by
 by_cases h:x≤y<;>simp[Int.min_def,h]<;>omega
theorem gr(P:Program)(w:World)(a:Array TypeId)(t:TypeId)(k F:IntKind)(x y:Int):(Builtin.max_ a t #[.int k x,.int F y]).run P w=.ok (.int k (max x y)) w:=by
 rw[run_max_int2,FZ]
theorem gu(P:Program)(w:World)(a:Array TypeId)(t:TypeId)(k F:IntKind)(x y:Int):(Builtin.min_ a t #[.int k x,.int F y]).run P w=.ok (.int k (min x y)) w:=by
 rw[run_min_int2,F0]
theorem dK{B:Nat}{a w:World}(h:Below B a w)(n:Nat):Below B a (w.drewN n):=⟨h.os,h.tape,h.output,h.size,h.block⟩
def cp{α:Type}(E:World→Nat→α→List Value→Prop)(sz:Nat)(w:World)(B:Nat)(A:L3)(n:Nat)(l:List α):Prop:=
 l.length=n∧(0<n→∃b o,A=some ⟨b,o,none⟩∧b<B∧∀k x,l[k]?=some x→∃cs:List Value,E w B x cs∧cs.length=sz∧∀j v,cs[j]?=some v→w.cell? ⟨b,o+k*sz+j,none⟩=some v)
section
variable {α:Type} {E:World→Nat→α→List Value→Prop} {sz:Nat} {w ab:World} {B q n:Nat} {A:L3} {l:List α}
theorem cp.bR(A:L3):cp E sz w B A 0 ([]:List α):=⟨rfl,fun h=>absurd h (by omega)⟩
theorem cp.al(h:cp E sz w B A n l)(O:Below B w ab)(aw:∀x cs,E w B x cs→E ab B x cs):cp E sz ab B A n l:=by
 refine⟨h.1,fun hn=>?_⟩;obtain⟨b,o,aX,U,hc⟩:=h.2 hn;refine⟨b,o,aX,U,fun k x hx=>?_⟩;obtain⟨cs,he,hl,bi⟩:=hc k x hx;exact⟨cs,aw _ _ he,hl,fun j v bG=>(O.cell (p:=⟨b,_,none⟩) U).trans (bi j v bG)⟩
theorem cp.more(h:cp E sz w B A n l)(aR:B≤q)(aw:∀x cs,E w B x cs→E w q x cs):cp E sz w q A n l:=by
 refine⟨h.1,fun hn=>?_⟩;obtain⟨b,o,aX,U,hc⟩:=h.2 hn;refine⟨b,o,aX,by omega,fun k x hx=>?_⟩;obtain⟨cs,he,hl,bi⟩:=hc k x hx;exact⟨cs,aw _ _ he,hl,bi⟩
end
def EF{α:Type}(f:α→List Value):World→Nat→α→List Value→Prop:=fun _ _ x cs=>cs=f x
section
variable {α:Type} {f:α→List Value} {sz:Nat} {w ab:World} {B q n:Nat} {A:L3} {l:List α}
theorem cp.dS(h:cp (EF f) sz w B A n l)(O:Below B w ab):cp (EF f) sz ab B A n l:=h.al O fun _ _ h=>h
theorem cp.Ji(h:cp (EF f) sz w B A n l)(aR:B≤q):cp (EF f) sz w q A n l:=h.more aR fun _ _ h=>h
theorem cp.c8(h:cp (EF f) sz w B A n l)(O:Below B w ab)(aR:B≤q):cp (EF f) sz ab q A n l:=(h.dS O).Ji aR
theorem cp.I2(h:cp (EF f) sz w B A n l){k:Nat}(ap:k<n) :
  ∃b o x,A=some ⟨b,o,none⟩∧b<B∧l[k]?=some x∧(f x).length=sz∧∀j v,(f x)[j]?=some v→w.cell? ⟨b,o+k*sz+j,none⟩=some v:=by
 obtain⟨b,o,aX,O,hc⟩:=h.2 (by omega);have hm:l[k]?=some (l[k]'(by have:=h.1;omega)):=List.getElem?_eq_getElem _;obtain⟨cs,he,hl,bi⟩:=hc k _ hm;rw[EF] at he;subst he;exact⟨b,o,_,aX,O,hm,hl,bi⟩
theorem cp.some_(h:cp (EF f) sz w B A n l)(ap:0<n):∃b o,A=some ⟨b,o,none⟩∧b<B:=by
 obtain⟨b,o,aX,O,_⟩:=h.2 ap;exact⟨b,o,aX,O⟩
end
theorem fL{α:Type}(f:α→List Value)(sz:Nat):∀(l:List α),(∀x∈l,(f x).length=sz)→∀k x,l[k]?=some x→∀j,j<sz→(l.flatMap f)[k*sz+j]?=(f x)[j]?
 | [],_,k,x,h,_,_=>by simp at h
 | a::l,hs,0,x,h,j,bi=>by
  have bz:=hs a (by simp);simp only[List.getElem?_cons_zero,Option.some.injEq] at h;subst h;simp only[List.flatMap_cons,Nat.zero_mul,Nat.zero_add]
  rw[List.getElem?_append_left (by omega)]
 | a::l,hs,k+1,x,h,j,bi=>by
  have bz:=hs a (by simp);simp only[List.getElem?_cons_succ] at h;have ao:=fL f sz l (fun y bb=>hs y (by simp[bb])) k x h j bi;simp only[List.flatMap_cons];rw[List.getElem?_append_right (by rw[bz,Nat.succ_mul];omega),bz,←ao];congr 1
  rw[Nat.succ_mul];omega
theorem gp{α:Type}(f:α→List Value)(sz:Nat)(l:List α)(hs:∀x∈l,(f x).length=sz):(l.flatMap f).length=l.length*sz:=by
 induction l with
 | nil=>simp
 | cons a l ao=>
  rw[List.flatMap_cons,List.length_append,hs a (by simp),ao (fun x hx=>hs x (by simp[hx])),List.length_cons,Nat.succ_mul];omega
theorem b5{w:World}{base:Nat}{e:TypeId}{sz:Nat}{v:Value}{n:Nat}{xs:List Value}(h:w.ownsRow base e sz v n xs) :
  ∃A c,v=.slice A n c∧n≤c∧c≤maxLen∧(A=none→n=0∧c=0)∧∀a,A=some a→∃g,a=⟨g,0,none⟩∧base≤g∧g<w.heap.size:=by
 rcases h.2 with⟨rfl,rfl⟩|⟨g,cap,cur,rfl,O,a9,hn,hc,_⟩
 ·exact⟨none,0,rfl,Nat.le_refl _,by simp,fun _=>⟨rfl,rfl⟩,fun _ h=>nomatch h⟩
 ·exact⟨_,_,rfl,hn,hc,(fun h=>nomatch h),fun a h=>(by injection h with h;exact⟨g,h.symm,O,(Array.getElem?_eq_some_iff.1 a9).1⟩)⟩
theorem jM{α:Type}{f:α→List Value}{w:World}{base:Nat}{e:TypeId}{sz:Nat}{A:L3}{n c:Nat}{l:List α}
  (h:w.ownsRow base e sz (.slice A n c) n (l.flatMap f)) (hs:∀x∈l,(f x).length=sz) (hl:l.length=n):cp (EF f) sz w w.heap.size A n l:=by
 refine⟨hl,fun hn=>?_⟩;rcases h.2 with⟨bG,h0⟩|⟨g,cap,cur,bG,_,a9,aL,_,T,a⟩
 ·omega
 ·injection bG with aX _ _;subst aX;refine⟨g,0,rfl,(Array.getElem?_eq_some_iff.1 a9).1,fun k x hx=>⟨f x,rfl,hs x (List.mem_of_getElem? hx),fun j v bi=>?_⟩⟩;have r:j<sz:=by
   have:=hs x (List.mem_of_getElem? hx);have:=(List.getElem?_eq_some_iff.1 bi).1;omega
  have bH:k<l.length:=(List.getElem?_eq_some_iff.1 hx).1;have cg:=fL f sz l hs k x hx j r;rw[bi,←a,List.getElem?_take] at cg;split at cg
  ·rw[cell_of_row w g _ cur e (0,0) a9,Nat.zero_add];simpa using cg
  ·cases cg
theorem zb{w ab:World}{base B:Nat}{e:TypeId}{sz:Nat}{v:Value}{n:Nat}{xs:List Value}(h:w.ownsRow base e sz v n xs)(O:Below B w ab)(aR:∀g,v.ownBlock=some g→g<B):ab.ownsRow base e sz v n xs:=by
 refine⟨h.1,?_⟩;rcases h.2 with au|⟨g,cap,cur,rfl,j,a9,rest⟩
 ·exact .inl au
 ·exact .inr ⟨g,cap,cur,rfl,j,(O.block g (aR g rfl)).trans a9,rest⟩
theorem b3{w ab:World}{base:Nat}{e:TypeId}{sz:Nat}{v:Value}{n:Nat}{xs:List Value}(h:w.ownsRow base e sz v n xs)(O:Below w.heap.size w ab):ab.ownsRow base e sz v n xs:=
 zb h O fun g a9=>(h.lt g a9).2
theorem im{w:World}{base:Nat}{e:TypeId}{sz:Nat}{A:L3}{n c:Nat}{xs:List Value}(h:w.ownsRow base e sz (.slice A n c) n xs)(hn:0<n) :
  ∃g,A=some ⟨g,0,none⟩∧base≤g∧g<w.heap.size∧(∀j u,xs[j]?=some u→w.cell? ⟨g,j,none⟩=some u)∧(∀j,w.frozen? ⟨g,j,none⟩=false)∧
   ∀j u,j<n*sz→(w.setCell ⟨g,j,none⟩ u).ownsRow base e sz (.slice A n c) n (xs.set j u):=by
 rcases h.2 with⟨bG,h0⟩|⟨g,cap,cur,bG,O,a9,aL,v,T,a⟩
 ·omega
 ·injection bG with aX _ hc;subst aX hc;refine⟨g,rfl,O,(Array.getElem?_eq_some_iff.1 a9).1,fun j u hu=>?_,fun j=>?_,fun j u bi=>⟨by rw[List.length_set];exact h.1,.inr ⟨g,c,cur.setIfInBounds j u,rfl,O,?_,aL,v,by simpa using T,?_⟩⟩⟩
  ·rw[←a,List.getElem?_take] at hu;split at hu
   ·rw[cell_of_row w g j cur e (0,0) a9];simpa using hu
   ·cases hu
  ·simp[World.frozen?,a9]
  ·simp[World.setCell,Array.getElem?_modify,a9]
  ·rw[←a,Array.toList_setIfInBounds,List.take_set]
theorem j0{α:Type}(f:α→List Value)(sz:Nat):∀(l:List α),(∀x∈l,(f x).length=sz)→∀k x,l[k]?=some x→∀j u y,j<sz→(f x).set j u=f y→(l.flatMap f).set (k*sz+j) u=(l.set k y).flatMap f
 | [],_,k,x,h,_,_,_,_,_=>by simp at h
 | a::l,hs,0,x,h,j,u,y,bi,bb=>by
  have bz:=hs a (by simp);simp only[List.getElem?_cons_zero,Option.some.injEq] at h;subst h;simp only[List.flatMap_cons,Nat.zero_mul,Nat.zero_add,List.set_cons_zero]
  rw[List.set_append_left _ _ (by omega),bb]
 | a::l,hs,k+1,x,h,j,u,y,bi,bb=>by
  have bz:=hs a (by simp);simp only[List.getElem?_cons_succ] at h;have ao:=j0 f sz l (fun y bb=>hs y (by simp[bb])) k x h j u y bi bb;simp only[List.flatMap_cons,List.set_cons_succ];rw[List.set_append_right _ _ (by rw[bz,Nat.succ_mul];omega),bz,←ao];congr 2
  rw[Nat.succ_mul];omega
theorem sj{P:Program}(w:World)(t e:TypeId)(a:L3)(n c aP aK:Nat)(h:P.underlying t=some (.slice e)) :
  (binOp .eql t (.slice a n c) (.slice none aP aK)).run P w=.ok (.bool a.isNone) w:=by
 have key:∀d:Nat,(Op.equalIn (d+1) t (.slice a n c) (.slice none aP aK)).run P w=.ok a.isNone w:=fun d=>by
  rcases a with _|a<;>simp[Op.equalIn,run_underlying h]
 simp only[binOp];simp[Op.equal,Op.maxDepth,key 9999]
def Src(w:World)(sz:Nat)(A:L3)(m:Nat)(news:List Value):Prop:=
 news.length=m*sz∧(∀u∈news,u.oneCell'=true)∧(0<m→∃b o,A=some ⟨b,o,none⟩∧∀j u,news[j]?=some u→w.cell? ⟨b,o+j,none⟩=some u)
theorem Src.one{w:World}{b:Nat}{u:Value}(h:w.cell? ⟨b,0,none⟩=some u)(ac:u.oneCell'=true):Src w 1 (some ⟨b,0,none⟩) 1 [u]:=
 ⟨rfl,by simpa using ac,fun _=>⟨b,0,rfl,fun j v bi=>by
  cases j with
  | zero=>simp at bi;subst bi;exact h
  | succ j=>simp at bi⟩⟩
theorem Src.block{w:World}{g:Nat}{e:TypeId}{xs:Array Value}{sz:Nat}(a9:w.heap[g]?=some (.cells xs e (0,0)))(m:Nat)(hm:xs.size=m*sz)(ac:∀u∈xs.toList,u.oneCell'=true) :
  Src w sz (some ⟨g,0,none⟩) m xs.toList:=
 ⟨by simpa using hm,ac,fun _=>⟨g,0,rfl,fun j u bi=>by
  rw[Nat.zero_add,cell_of_row w g j xs e (0,0) a9];simpa using bi⟩⟩
theorem Src.lM{α:Type}{f:α→List Value}{sz:Nat}{w:World}{B n:Nat}{A:L3}{l:List α}(h:cp (EF f) sz w B A n l)(hs:∀x∈l,(f x).length=sz)(ac:∀x∈l,∀u∈f x,u.oneCell'=true)(bv:0<sz) :
  Src w sz A n (l.flatMap f):=by
 refine⟨by rw[gp f sz l hs,h.1],fun u hu=>?_,fun hn=>?_⟩
 ·obtain⟨x,hx,hu⟩:=List.mem_flatMap.1 hu;exact ac x hx u hu
 ·obtain⟨b,o,aX,_,hc⟩:=h.2 hn;refine⟨b,o,aX,fun j u bi=>?_⟩;have bq:=(List.getElem?_eq_some_iff.1 bi).1;rw[gp f sz l hs] at bq;have bH:j / sz<l.length:=by rw[Nat.div_lt_iff_lt_mul bv];exact bq
  have hx:l[j / sz]?=some (l[j / sz]'bH):=List.getElem?_eq_getElem bH;have d:=Nat.mod_lt j bv;have a:j / sz*sz+j % sz=j:=Nat.div_add_mod' j sz;have cg:=fL f sz l hs _ _ hx (j % sz) d;rw[a,bi] at cg;obtain⟨cs,he,_,c⟩:=hc _ _ hx;rw[EF] at he;subst he;have:=c _ _ cg.symm
  rwa [Nat.add_assoc,a] at this
def cj(P:Program)(t e:TypeId)(z:Value)(size bytes:Nat):Prop:=
 ∃i,P.underlying t=some (.slice e)∧P.info? e=some i∧i.zero=some z∧i.size=size∧i.bytes=bytes∧z.cells.size=size∧0<size
theorem cj.mk'{P:Program}{t e:TypeId}{z:Value}{size bytes:Nat}(ht:P.underlying t=some (.slice e))(an:(P.info? e).map (fun i=>(i.zero,i.size,i.bytes))=some (some z,size,bytes))(bv:z.cells.size=size)(h0:0<size):cj P t e z size bytes:=by
 obtain⟨i,ac,au,aY,bR⟩:=info_parts an;exact⟨i,ht,ac,au,aY,bR,bv,h0⟩
section
variable {P:Program} (w:World)
theorem vh(base:Nat)(t ty e:TypeId)(i:TypeInfo)(size:Nat)(ht:P.underlying t=some (.slice e))(an:P.info? e=some i)
  (v:Value) (n:Nat) (xs:List Value) (aB:w.ownsRow base e size v n xs) (c:Nat):(Builtin.append_ #[t,t] ty #[v,.slice none 0 c]).run P w=.ok v w:=by
 rcases aB.2 with⟨rfl,rfl⟩|⟨g,cap,cur,rfl,_,_,aL,_⟩
 ·simp[Builtin.append_,run_underlying ht,sizeOf,typeInfo,an,Builtin.lenOf,Builtin.firstCells]
 ·simp[Builtin.append_,run_underlying ht,sizeOf,typeInfo,an,Builtin.lenOf,Builtin.firstCells,aL,storeCells]
theorem Gn{t e:TypeId}{z:Value}{size bytes:Nat}(aX:cj P t e z size bytes)(base:Nat)(ty:TypeId)(v:Value)(n:Nat)(xs:List Value)(aB:w.ownsRow base e size v n xs)
  (A:L3) (m c:Nat) (news:List Value) (hs:Src w size A m news) (r:(n+m)*bytes≤140737488355328) (y:n+m≤140737488355328) (C:base≤w.heap.size) (d:A=none→m=0) :
  ∃G ab,(Builtin.append_ #[t,t] ty #[v,.slice A m c]).run P w=.ok G ab∧ab.ownsRow base e size G (n+m) (xs++news)∧w.grownBy ab v.ownBlock∧
   (G.ownBlock=v.ownBlock∨G.ownBlock=some w.heap.size):=by
 obtain⟨i,ht,an,bv,g,S,cR,bI⟩:=aX;rcases A with _|a
 ·have hm:=d rfl;subst hm;have hn:news=[]:=List.eq_nil_of_length_eq_zero (by simpa using hs.1);subst hn;exact⟨v,w,vh w base t ty e i size ht an v n xs aB c,by simpa using aB,World.grownBy.refl w _,.inl rfl⟩
 ·have bL:∀j u,news[j]?=some u→w.cell? (a.add j)=some u:=by
   intro j u hu;rcases Nat.eq_zero_or_pos m with h0|h0
   ·subst h0;have hn:news=[]:=List.eq_nil_of_length_eq_zero (by simpa using hs.1);subst hn;simp at hu
   ·obtain⟨b,o,h,hc⟩:=hs.2.2 h0;injection h with h;subst h;have:=hc j u hu;by_cases bi:j=0
    ·subst bi;simpa[Addr.add] using this
    ·simpa[Addr.add,bi] using this
  obtain⟨G,ab,k,au,aY,_,cI⟩:=run_append_own_at (P:=P) w base t ty e i z size bytes ht an bv g S cR bI v n xs aB a m c news hs.1 bL hs.2.1 (by simp only[maxLen];omega) r C;exact⟨G,ab,k,au,aY,cI⟩
theorem kf{o:Oper}{a:Act}{K:Act→World→Prop}{Q:Exit→Act→World→Prop}{t e:TypeId}{z:Value}{size bytes:Nat}(aX:cj P t e z size bytes)(s x:Operand)
  (bn:o.op=.call {callee:=.builtin .append,args:=#[s,x],argTypes:=#[t,t]})
  (base:Nat) (v:Value) (n:Nat) (xs:List Value) (hs:a.eval s=v) (aB:w.ownsRow base e size v n xs)
  (A:L3) (m c:Nat) (news:List Value) (hx:a.eval x=.slice A m c) (ba:Src w size A m news)
  (r:(n+m)*bytes≤140737488355328) (y:n+m≤140737488355328) (C:base≤w.heap.size) (d:A=none→m=0)
  (h:∀G ab,ab.ownsRow base e size G (n+m) (xs++news)→w.grownBy ab v.ownBlock→(G.ownBlock=v.ownBlock∨G.ownBlock=some w.heap.size)→K (a.put o.dst G) ab):o.wp P a w K Q:=by
 obtain⟨G,ab,k,au,aY,bR⟩:=Gn (P:=P) w aX base o.type v n xs aB A m c news ba r y C d;unfold Oper.wp execOp;simp only[bn,resolve,invoke,builtin,Sem.run_bind,Sem.run_pure,Result.andThen_ok,List.map_toArray,List.map_cons,List.map_nil,hs,hx,k];exact h G ab au aY bR
theorem q6{ops:Array Oper}{rest:List Oper}{o:Oper}{a:Act}{Q:Exit→Act→World→Prop}{t e:TypeId}{z:Value}{size bytes:Nat}(aX:cj P t e z size bytes)(i:o.guard=none)(s x:Operand)
  (bn:o.op=.call {callee:=.builtin .append,args:=#[s,x],argTypes:=#[t,t]})
  (base:Nat) (v:Value) (n:Nat) (xs:List Value) (hs:a.eval s=v) (aB:w.ownsRow base e size v n xs)
  (A:L3) (m c:Nat) (news:List Value) (hx:a.eval x=.slice A m c) (ba:Src w size A m news)
  (r:(n+m)*bytes≤140737488355328) (y:n+m≤140737488355328) (C:base≤w.heap.size) (d:A=none→m=0)
  (h:∀G ab,ab.ownsRow base e size G (n+m) (xs++news)→w.grownBy ab v.ownBlock→(G.ownBlock=v.ownBlock∨G.ownBlock=some w.heap.size)→wpList P ops Q rest (a.put o.dst G) ab):wpList P ops Q (o::rest) a w:=
 wpList_plain i fun _ hK=>kf w aX s x bn base v n xs hs aB A m c news hx ba r y C d fun G ab au aY bR=>hK _ _ (h G ab au aY bR)
end
theorem dn{P:Program}(S:World){ops:Array Oper}{rest:List Oper}{o:Oper}{a:Act}{Q:Exit→Act→World→Prop}{t e:TypeId}{z:Value}{size bytes:Nat}(aX:cj P t e z size bytes)(i:o.guard=none)(s x:Operand)
  (bn:o.op=.call {callee:=.builtin .append,args:=#[s,x],argTypes:=#[t,t]})
  (base:Nat) (v:Value) (n:Nat) (xs:List Value) (cs:Array Value) (hs:a.eval s=v) (aB:S.ownsRow base e size v n xs)
  (hx:a.eval x=.slice (some ⟨S.heap.size,0,none⟩) 1 1) (T:cs.size=size) (ac:∀u∈cs.toList,u.oneCell'=true)
  (r:(n+1)*bytes≤140737488355328) (y:n+1≤140737488355328) (C:base≤S.heap.size)
  (h:∀G ab,ab.ownsRow base e size G (n+1) (xs++cs.toList)→S.grownBy ab v.ownBlock→(G.ownBlock=v.ownBlock∨G.ownBlock=some (S.heap.size+1))→wpList P ops Q rest (a.put o.dst G) ab):wpList P ops Q (o::rest) a (S.alloc (.cells cs e)):=by
 refine q6 _ aX i s x bn base v n xs hs (aB.alloc _) _ 1 1 cs.toList hx (Src.block (heap_alloc_new S _) 1 (by omega) ac) r y (by simp;omega) (fun h=>nomatch h) fun G ab au aY bR=>?_;refine h G ab au ⟨aY.os,aY.tape,aY.output,by have:=aY.size;simp at this;omega,fun k ap bf=>(aY.block k (by simp;omega) bf).trans (Below.heap_alloc S _ k ap)⟩ ?_;simpa using bR
theorem Src.on{w ab:World}{sz m:Nat}{A:L3}{news:List Value}(h:Src w sz A m news)(O:Below w.heap.size w ab):Src ab sz A m news:=by
 refine⟨h.1,h.2.1,fun hm=>?_⟩;obtain⟨b,o,aX,hc⟩:=h.2.2 hm;refine⟨b,o,aX,fun j u bi=>?_⟩;have c:=hc j u bi;exact(O.cell (p:=⟨b,o+j,none⟩) (World.block_lt_of_cell? w _ c)).trans c
theorem fX{P:Program}(S:World){ops:Array Oper}{rest:List Oper}{o:Oper}{a:Act}{Q:Exit→Act→World→Prop}{t e:TypeId}{z:Value}{size bytes:Nat}(aX:cj P t e z size bytes)(i:o.guard=none)(s x:Operand)
  (bn:o.op=.call {callee:=.builtin .append,args:=#[s,x],argTypes:=#[t,t]})
  (hs:a.eval s=.slice (some ⟨S.heap.size,0,none⟩) 0 0) (A:L3) (m c:Nat) (news:List Value) (hx:a.eval x=.slice A m c) (ba:Src S size A m news)
  (r:m*bytes≤140737488355328) (y:m≤140737488355328) (d:A=none→m=0)
  (h:∀I aK ab,ab.ownsRow S.heap.size e size (.slice I m aK) m news→Below S.heap.size S ab→wpList P ops Q rest (a.put o.dst (.slice I m aK)) ab):wpList P ops Q (o::rest) a (S.alloc (.cells #[] e)):=by
 have aB:(S.alloc (.cells #[] e)).ownsRow S.heap.size e size (.slice (some ⟨S.heap.size,0,none⟩) 0 0) 0 []:=World.ownsRow_made S #[] 0 (Nat.le_refl _) (Nat.zero_le _) (by simp);refine q6 _ aX i s x bn S.heap.size _ 0 [] hs aB A m c news hx (ba.on ((Below.refl _ _).alloc (Nat.le_refl _) _)) (by rw[Nat.zero_add];exact r) (by omega) (by simp) d fun G ab au aY bR=>?_;simp only[Nat.zero_add,List.nil_append] at au;have O:Below S.heap.size S ab:=((Below.refl _ _).alloc (Nat.le_refl _) _).grown aY (by simp) (by simp[Value.ownBlock]);obtain⟨I,aK,rfl,_⟩:=b5 au;exact h I aK ab au O
theorem fR{B:Nat}{a w ab:World}{base:Nat}{e:TypeId}{sz:Nat}{v:Value}{n:Nat}{xs:List Value}(h:Below B a w)(aB:w.ownsRow base e sz v n xs)(a9:w.grownBy ab v.ownBlock)(aR:B≤base)(bG:B≤w.heap.size):Below B a ab:=
 h.grown a9 bG fun k ap=>Nat.le_trans aR (aB.lt k ap).1
section
variable {P:Program} {t e:TypeId} {z:Value} {size bytes:Nat}
theorem run_mk(aX:cj P t e z size bytes)(kl kc:IntKind)(n:Nat)(O:bytes*n≤281474976710656)(y:n≤281474976710656)(w:World) :
  (Instr.makeSlice t (.int kl (n:Int)) (.int kc (n:Int))).run P w=.ok (.slice (some ⟨w.heap.size,0,none⟩) n n) (w.alloc (.cells (madeCells z.cells (n*size)) e)):=by
 obtain⟨i,ht,an,bv,g,S,cR,bI⟩:=aX;have a:(i.bytes:Int)*(n:Int)≤281474976710656:=by
  have h:((i.bytes*n:Nat):Int)≤281474976710656:=by rw[S];omega
  rwa [Int.natCast_mul] at h
 have ba:=run_make (P:=P) w t e i z ht an bv kl kc n n (by omega) (by omega) a (by omega);simp only[Int.toNat_natCast] at ba;rw[ba,g]
theorem r6{α:Type}{f:α→List Value}{x:α}{zc:Array Value}{sz:Nat}(bv:zc.toList=f x)(hs:(f x).length=sz)(h0:0<sz)(n:Nat):(madeCells zc (n*sz)).toList=(List.replicate n x).flatMap f:=by
 have cR:zc.size=sz:=by rw[←Array.length_toList,bv,hs]
 apply List.ext_getElem?
 intro j;by_cases bi:j<n*sz
 ·have ap:j / sz<n:=by rw[Nat.div_lt_iff_lt_mul h0];exact bi
  have hm:=Nat.mod_lt j h0;have hx:(List.replicate n x)[j / sz]?=some x:=by rw[List.getElem?_replicate,if_pos ap]
  have:=fL f sz (List.replicate n x) (fun y bb=>by rw[(List.mem_replicate.1 bb).2];exact hs) _ _ hx _ hm;rw[Nat.div_add_mod'] at this;rw[this,←bv];have a4:j % zc.size<zc.size:=by rw[cR];exact hm
  simp only[madeCells,Array.getElem?_toList,Array.getElem?_map,Array.getElem?_range,bi,if_pos,Option.map_some];rw[←cR,getElem!_pos zc _ a4,Array.getElem?_eq_getElem a4]
 ·rw[List.getElem?_eq_none (by rw[Array.length_toList,size_madeCells];omega),List.getElem?_eq_none (by rw[gp f sz _ (fun y bb=>by rw[(List.mem_replicate.1 bb).2];exact hs),List.length_replicate];omega)]
theorem wZ{α:Type}{f:α→List Value}{x:α}{zc:Array Value}{sz:Nat}(bv:zc.toList=f x)(hs:(f x).length=sz)(h0:0<sz)(n:Nat)(hn:n≤281474976710656){w:World}{base:Nat}(O:base≤w.heap.size) :
  (w.alloc (.cells (madeCells zc (n*sz)) e)).ownsRow base e sz (.slice (some ⟨w.heap.size,0,none⟩) n n) n ((List.replicate n x).flatMap f):=by
 rw[←r6 bv hs h0 n];exact World.ownsRow_lit w _ n O (by unfold maxLen;omega) (size_madeCells _ _)
end
def cP(x:Int):List Value:=[.int .i64 x]
def oL(x:ByteArray):List Value:=[.string x]
theorem cp.int{w:World}{B n:Nat}{A:L3}{l:List Int}(h:cp (EF cP) 1 w B A n l){k:Nat}(ap:k<n) :
  ∃b o x,A=some ⟨b,o,none⟩∧b<B∧l[k]?=some x∧w.cell? ⟨b,o+k,none⟩=some (.int .i64 x):=by
 obtain⟨b,o,x,aX,O,hx,_,hc⟩:=h.I2 ap;have:=hc 0 _ rfl;simp only[Nat.mul_one,Nat.add_zero] at this;exact⟨b,o,x,aX,O,hx,this⟩
theorem cp.str{w:World}{B n:Nat}{A:L3}{l:L4}(h:cp (EF oL) 1 w B A n l){k:Nat}(ap:k<n) :
  ∃b o x,A=some ⟨b,o,none⟩∧b<B∧l[k]?=some x∧w.cell? ⟨b,o+k,none⟩=some (.string x):=by
 obtain⟨b,o,x,aX,O,hx,_,hc⟩:=h.I2 ap;have:=hc 0 _ rfl;simp only[Nat.mul_one,Nat.add_zero] at this;exact⟨b,o,x,aX,O,hx,this⟩
theorem uB(l:List Int):l.flatMap cP=l.map (Value.int .i64):=by
 induction l with
 | nil=>rfl
 | cons a l ao=>rw[List.flatMap_cons,ao];rfl
theorem lH(l:List Int)(x:Int):(l++[x]).flatMap cP=l.flatMap cP++[.int .i64 x]:=by
 rw[List.flatMap_append];rfl
theorem qC(k:IntKind)(x:Int):∀u∈(#[Value.int k x]:Array Value).toList,u.oneCell'=true:=by
 intro u hu;simp at hu;subst hu;rfl
theorem jH(l:List Int):∀x∈l,(cP x).length=1:=fun _ _=>rfl
theorem row_slr{k:IntKind}{w:World}{a:L3}{len cap:Nat}{b:List Int}
  (h:(a=none∧len=0∧cap=0∧b=[])∨∃x,a=some x∧len≤cap∧cap≤maxLen∧b.length=cap∧(∀i,i<b.length→w.cell? (x.add i)=some (.int k (b.getD i 0)))∧∀n∈b,(Lit.int k n).wf=true) (ap:k=.i64) :
  cp (EF cP) 1 w w.heap.size a len (b.take len):=by
 subst ap;rcases h with⟨rfl,rfl,rfl,rfl⟩|⟨x,rfl,a9,_,bv,hc,_⟩
 ·exact cp.bR _
 ·refine⟨by simp;omega,fun hn=>?_⟩;have h0:=hc 0 (by omega);have hx:x.spot=none:=by
   have ac:w.cell? x=some (.int .i64 (b.getD 0 0)):=by simpa[Addr.add] using h0
   cases hs:x.spot with
   | none=>rfl
   | some s=>
    rw[World.cell?] at ac;split at ac
    ·rw[hs] at ac;simp at ac
    ·cases ac
  have T:=World.block_lt_of_cell? w _ h0;refine⟨x.block,x.off,by rw[←hx],by simpa[Addr.add] using T,fun j v bi=>⟨cP v,rfl,rfl,fun i u hu=>?_⟩⟩;have bq:=(List.getElem?_eq_some_iff.1 bi).1;rw[List.length_take] at bq;have c:=hc j (by omega);rw[List.getElem?_take] at bi;split at bi
  ·have bG:b.getD j 0=v:=by rw[List.getD_eq_getElem?_getD,bi];rfl
   rw[bG] at c;have an:i=0∧u=.int .i64 v:=by
    cases i with
    | zero=>simp[cP] at hu;exact⟨rfl,hu.symm⟩
    | succ i=>simp[cP] at hu
   obtain⟨rfl,rfl⟩:=an;have bz:x.add j=⟨x.block,x.off+j*1+0,none⟩:=by
    rw[Nat.mul_one,Nat.add_zero];unfold Addr.add;split
    ·rename_i fa;rw[fa,Nat.add_zero,←hx]
    ·rfl
   rw[bz] at c;exact c
  ·cases bi
theorem dh:cj prog 22 3 (.int .i64 0) 1 8:=cj.mk' Tryz.underlying22 (by kernel_rfl) rfl (by omega)
inductive D where
 | i (n:Int)
 | b (x:Bool)
 | s (x:ByteArray)
 | st (l:List D)
 | sl (l:List D)
mutual
def D.rep(w:World)(P:Nat→Prop):D→List Value→Prop
 | .i n=>fun cs=>cs=[.int .i64 n]
 | .b x=>fun cs=>cs=[.bool x]
 | .s x=>fun cs=>cs=[.string x]
 | .st l=>fun cs=>D.aQ w P l cs
 | .sl l=>fun cs=>∃A c,cs=[.slice A l.length c]∧l.length≤c∧(0<l.length→∃b o xs,A=some ⟨b,o,none⟩∧P b∧D.aQ w P l xs∧∀j u,xs[j]?=some u→w.cell? ⟨b,o+j,none⟩=some u)
def D.aQ(w:World)(P:Nat→Prop):List D→List Value→Prop
 | []=>fun cs=>cs=[]
 | d::l=>fun cs=>∃x y,cs=x++y∧D.rep w P d x∧D.aQ w P l y
end
mutual
def D.sz:D→Nat
 | .i _=>1
 | .b _=>1
 | .s _=>1
 | .st l=>D.zm l
 | .sl _=>1
def D.zm:List D→Nat
 | []=>0
 | d::l=>D.sz d+D.zm l
end
mutual
theorem D.lr{w:World}{P:Nat→Prop}:∀(d:D) (cs:List Value),d.rep w P cs→cs.length=d.sz
 | .i n,cs,h=>by simp only[D.rep] at h;subst h;rfl
 | .b x,cs,h=>by simp only[D.rep] at h;subst h;rfl
 | .s x,cs,h=>by simp only[D.rep] at h;subst h;rfl
 | .st l,cs,h=>by simp only[D.rep] at h;simp only[D.sz];exact D.hj l cs h
 | .sl l,cs,h=>by simp only[D.rep] at h;obtain⟨A,c,rfl,_⟩:=h;rfl
theorem D.hj{w:World}{P:Nat→Prop}:∀(l:List D) (cs:List Value),D.aQ w P l cs→cs.length=D.zm l
 | [],cs,h=>by simp only[D.aQ] at h;subst h;rfl
 | d::l,cs,h=>by
  simp only[D.aQ] at h;obtain⟨x,y,rfl,hx,bb⟩:=h;simp only[D.zm,List.length_append,D.lr d x hx,D.hj l y bb]
end
mutual
theorem D.aS{w ab:World}{P:Nat→Prop}(ap:∀b,P b→ab.heap[b]?=w.heap[b]?):∀(d:D) (cs:List Value),d.rep w P cs→d.rep ab P cs
 | .i n,cs,h=>by simpa only[D.rep] using h
 | .b x,cs,h=>by simpa only[D.rep] using h
 | .s x,cs,h=>by simpa only[D.rep] using h
 | .st l,cs,h=>by simp only[D.rep] at h ⊢;exact D.bY ap l cs h
 | .sl l,cs,h=>by
  simp only[D.rep] at h ⊢;obtain⟨A,c,T,hc,hn⟩:=h;refine⟨A,c,T,hc,fun h0=>?_⟩;obtain⟨b,o,xs,aX,O,ba,bi⟩:=hn h0;exact⟨b,o,xs,aX,O,D.bY ap l xs ba,fun j u hu=>(World.cell?_of_block (w:=w) (ap b O)).trans (bi j u hu)⟩
theorem D.bY{w ab:World}{P:Nat→Prop}(ap:∀b,P b→ab.heap[b]?=w.heap[b]?):∀(l:List D) (cs:List Value),D.aQ w P l cs→D.aQ ab P l cs
 | [],cs,h=>by simpa only[D.aQ] using h
 | d::l,cs,h=>by
  simp only[D.aQ] at h ⊢;obtain⟨x,y,rfl,hx,bb⟩:=h;exact⟨x,y,rfl,D.aS ap d x hx,D.bY ap l y bb⟩
end
mutual
theorem D.aL{w:World}{P c9:Nat→Prop}(hp:∀b,P b→c9 b):∀(d:D) (cs:List Value),d.rep w P cs→d.rep w c9 cs
 | .i n,cs,h=>by simpa only[D.rep] using h
 | .b x,cs,h=>by simpa only[D.rep] using h
 | .s x,cs,h=>by simpa only[D.rep] using h
 | .st l,cs,h=>by simp only[D.rep] at h ⊢;exact D.bZ hp l cs h
 | .sl l,cs,h=>by
  simp only[D.rep] at h ⊢;obtain⟨A,c,T,hc,hn⟩:=h;refine⟨A,c,T,hc,fun h0=>?_⟩;obtain⟨b,o,xs,aX,O,ba,bi⟩:=hn h0;exact⟨b,o,xs,aX,hp b O,D.bZ hp l xs ba,bi⟩
theorem D.bZ{w:World}{P c9:Nat→Prop}(hp:∀b,P b→c9 b):∀(l:List D) (cs:List Value),D.aQ w P l cs→D.aQ w c9 l cs
 | [],cs,h=>by simpa only[D.aQ] using h
 | d::l,cs,h=>by
  simp only[D.aQ] at h ⊢;obtain⟨x,y,rfl,hx,bb⟩:=h;exact⟨x,y,rfl,D.aL hp d x hx,D.bZ hp l y bb⟩
end
mutual
theorem D.tC{w:World}{P:Nat→Prop}:∀(d:D) (cs:List Value),d.rep w P cs→∀u∈cs,u.oneCell'=true
 | .i n,cs,h=>by simp only[D.rep] at h;subst h;simp[Value.oneCell']
 | .b x,cs,h=>by simp only[D.rep] at h;subst h;simp[Value.oneCell']
 | .s x,cs,h=>by simp only[D.rep] at h;subst h;simp[Value.oneCell']
 | .st l,cs,h=>by simp only[D.rep] at h;exact D.qP l cs h
 | .sl l,cs,h=>by simp only[D.rep] at h;obtain⟨A,c,rfl,_⟩:=h;simp[Value.oneCell']
theorem D.qP{w:World}{P:Nat→Prop}:∀(l:List D) (cs:List Value),D.aQ w P l cs→∀u∈cs,u.oneCell'=true
 | [],cs,h=>by simp only[D.aQ] at h;subst h;simp
 | d::l,cs,h=>by
  simp only[D.aQ] at h;obtain⟨x,y,rfl,hx,bb⟩:=h;intro u hu;rcases List.mem_append.1 hu with hu|hu
  ·exact D.tC d x hx u hu
  ·exact D.qP l y bb u hu
end
theorem D.cI{w:World}{P:Nat→Prop}:∀{l m:List D} {x y:List Value},D.aQ w P l x→D.aQ w P m y→D.aQ w P (l++m) (x++y)
 | [],m,x,y,hx,bb=>by simp only[D.aQ] at hx;subst hx;exact bb
 | d::l,m,x,y,hx,bb=>by
  simp only[D.aQ,List.cons_append] at hx ⊢;obtain⟨a,c,rfl,bz,hc⟩:=hx;exact⟨a,c++y,by rw[List.append_assoc],bz,D.cI hc bb⟩
theorem D.j8{w:World}{P:Nat→Prop}:∀{l m:List D} {x:List Value},D.aQ w P (l++m) x→∃y z,x=y++z∧D.aQ w P l y∧D.aQ w P m z
 | [],m,x,h=>⟨[],x,rfl,by simp only[D.aQ],h⟩
 | d::l,m,x,h=>by
  simp only[D.aQ,List.cons_append] at h;obtain⟨a,c,rfl,bz,hc⟩:=h;obtain⟨y,z,rfl,bb,bv⟩:=D.j8 hc;exact⟨a++y,z,by rw[List.append_assoc],by simp only[D.aQ];exact⟨a,y,rfl,bz,bb⟩,bv⟩
theorem D.bm{w:World}{P:Nat→Prop}{d:D}{x:List Value}:D.aQ w P [d] x↔d.rep w P x:=by
 simp only[D.aQ];constructor
 ·rintro⟨a,b,rfl,bz,rfl⟩;simpa using bz
 ·intro h;exact⟨x,[],by simp,h,rfl⟩
theorem D.gY{z:Nat}:∀{l:List D},(∀d∈l,d.sz=z)→D.zm l=l.length*z
 | [],_=>by simp[D.zm]
 | d::l,h=>by
  have ao:D.zm l=l.length*z:=D.gY (fun x hx=>h x (List.mem_cons_of_mem _ hx));simp only[D.zm,List.length_cons,Nat.succ_mul,h d (List.mem_cons_self),ao];omega
theorem D.pv{w:World}{P:Nat→Prop}{z:Nat}:∀{l:List D} {xs:List Value},D.aQ w P l xs→(∀d∈l,d.sz=z)→∀{k:Nat} {d:D},l[k]?=some d→
  ∃cs,d.rep w P cs∧cs.length=z∧∀j u,cs[j]?=some u→xs[k*z+j]?=some u
 | [],xs,_,_,k,d,ap=>by simp at ap
 | e::l,xs,h,bv,0,d,ap=>by
  simp only[D.aQ] at h;obtain⟨x,y,rfl,hx,_⟩:=h;simp only[List.getElem?_cons_zero,Option.some.injEq] at ap;subst ap;refine⟨x,hx,(D.lr _ _ hx).trans (bv e (by simp)),fun j u hu=>?_⟩;rw[Nat.zero_mul,Nat.zero_add,List.getElem?_append_left (List.getElem?_eq_some_iff.1 hu).1]
  exact hu
 | e::l,xs,h,bv,k+1,d,ap=>by
  simp only[D.aQ] at h;obtain⟨x,y,rfl,hx,bb⟩:=h;simp only[List.getElem?_cons_succ] at ap;obtain⟨cs,ba,hl,bi⟩:=D.pv bb (fun x hx=>bv x (by simp[hx])) ap;have cn:=(D.lr _ _ hx).trans (bv e (by simp));refine⟨cs,ba,hl,fun j u hu=>?_⟩;rw[List.getElem?_append_right (by rw[cn,Nat.succ_mul];omega),cn,show (k+1)*z+j - z=k*z+j by rw[Nat.succ_mul];omega];exact bi j u hu
def Sl(w:World)(P:Nat→Prop)(A:L3)(n:Nat)(l:List D):Prop:=
 l.length=n∧(0<n→∃b o xs,A=some ⟨b,o,none⟩∧P b∧D.aQ w P l xs∧∀j u,xs[j]?=some u→w.cell? ⟨b,o+j,none⟩=some u)
section
variable {w ab:World} {P c9:Nat→Prop} {A:L3} {n z:Nat} {l:List D}
theorem D.tE{cs:List Value}:(D.sl l).rep w P cs↔∃A c n,cs=[.slice A n c]∧n≤c∧Sl w P A n l:=by
 simp only[D.rep,Sl];constructor
 ·rintro⟨A,c,rfl,hc,h⟩;exact⟨A,c,_,rfl,hc,rfl,h⟩
 ·rintro⟨A,c,n,rfl,hc,rfl,h⟩;exact⟨A,c,rfl,hc,h⟩
theorem Sl.bR(A:L3):Sl w P A 0 []:=⟨rfl,fun h=>absurd h (by omega)⟩
theorem Sl.al(h:Sl w P A n l)(ap:∀b,P b→ab.heap[b]?=w.heap[b]?):Sl ab P A n l:=by
 refine⟨h.1,fun hn=>?_⟩;obtain⟨b,o,xs,aX,O,ba,bi⟩:=h.2 hn;exact⟨b,o,xs,aX,O,D.bY ap l xs ba,fun j u hu=>(World.cell?_of_block (w:=w) (ap b O)).trans (bi j u hu)⟩
theorem Sl.mono(h:Sl w P A n l)(hp:∀b,P b→c9 b):Sl w c9 A n l:=by
 refine⟨h.1,fun hn=>?_⟩;obtain⟨b,o,xs,aX,O,ba,bi⟩:=h.2 hn;exact⟨b,o,xs,aX,hp b O,D.bZ hp l xs ba,bi⟩
theorem Sl.some_(h:Sl w P A n l)(hn:0<n):∃b o,A=some ⟨b,o,none⟩∧P b:=by
 obtain⟨b,o,xs,aX,O,_⟩:=h.2 hn;exact⟨b,o,aX,O⟩
theorem Sl.none_(h:Sl w P none n l):n=0:=by
 rcases Nat.eq_zero_or_pos n with h0|h0
 ·exact h0
 ·obtain⟨b,o,aX,_⟩:=h.some_ h0;cases aX
theorem Sl.at_(h:Sl w P A n l)(bv:∀d∈l,d.sz=z){k:Nat}(ap:k<n) :
  ∃b o d cs,A=some ⟨b,o,none⟩∧P b∧l[k]?=some d∧d.rep w P cs∧cs.length=z∧∀j u,cs[j]?=some u→w.cell? ⟨b,o+k*z+j,none⟩=some u:=by
 obtain⟨b,o,xs,aX,O,ba,bi⟩:=h.2 (by omega);have hm:l[k]?=some (l[k]'(by have:=h.1;omega)):=List.getElem?_eq_getElem _;obtain⟨cs,hd,hl,hc⟩:=D.pv ba bv hm;exact⟨b,o,_,cs,aX,O,hm,hd,hl,fun j u hu=>by rw[Nat.add_assoc];exact bi _ u (hc j u hu)⟩
theorem Sl.g6{α:Type}{enc:α→D}{l:List α}(h:Sl w P A n (l.map enc))(bv:∀x,(enc x).sz=z){k:Nat}(ap:k<n) :
  ∃b o x cs,A=some ⟨b,o,none⟩∧P b∧l[k]?=some x∧(enc x).rep w P cs∧cs.length=z∧∀j u,cs[j]?=some u→w.cell? ⟨b,o+k*z+j,none⟩=some u:=by
 obtain⟨b,o,d,cs,aX,O,hd,ba,hl,hc⟩:=h.at_ (z:=z) (fun d hd=>by obtain⟨x,_,rfl⟩:=List.mem_map.1 hd;exact bv x) ap;rw[List.getElem?_map] at hd
 cases hx:l[k]? with
 | none=>rw[hx] at hd;cases hd
 | some x=>
  rw[hx] at hd;injection hd with hd;subst hd;exact⟨b,o,x,cs,aX,O,rfl,ba,hl,hc⟩
theorem Sl.take(h:Sl w P A n l){m:Nat}(hm:m≤n):Sl w P A m (l.take m):=by
 refine⟨by have:=h.1;simp;omega,fun h0=>?_⟩;obtain⟨b,o,xs,aX,O,ba,bi⟩:=h.2 (by omega);rw[←List.take_append_drop m l] at ba;obtain⟨y,ch,rfl,bb,_⟩:=D.j8 ba;exact⟨b,o,y,aX,O,bb,fun j u hu=>bi j u (by rw[List.getElem?_append_left (List.getElem?_eq_some_iff.1 hu).1];exact hu)⟩
theorem Sl.src(h:Sl w P A n l)(bv:∀d∈l,d.sz=z):∃xs,D.aQ w P l xs∧Src w z A n xs:=by
 rcases Nat.eq_zero_or_pos n with hn|hn
 ·subst hn;have:l=[]:=List.eq_nil_of_length_eq_zero h.1;subst this;exact⟨[],by simp only[D.aQ],by simp,by simp,fun h=>absurd h (by omega)⟩
 ·obtain⟨b,o,xs,aX,O,ba,bi⟩:=h.2 hn;exact⟨xs,ba,by rw[D.hj _ _ ba,D.gY bv,h.1],D.qP l xs ba,fun _=>⟨b,o,aX,bi⟩⟩
theorem Sl.qB{base:Nat}{e:TypeId}{c:Nat}{xs:List Value}(h:w.ownsRow base e z (.slice A n c) n xs)(ba:D.aQ w P l xs)(hl:l.length=n)(a1:∀g,A=some ⟨g,0,none⟩→base≤g→g<w.heap.size→P g):Sl w P A n l:=by
 refine⟨hl,fun hn=>?_⟩;obtain⟨g,aX,O,a9,hc,_⟩:=im h hn;exact⟨g,0,xs,aX,a1 g aX O a9,ba,fun j u hu=>by rw[Nat.zero_add];exact hc j u hu⟩
end
abbrev av(w:World):Nat→Prop:=fun b=>b<w.heap.size
theorem D.on{w ab:World}{d:D}{cs:List Value}(h:d.rep w (av w) cs)(O:Below w.heap.size w ab):d.rep ab (av ab) cs:=
 D.aL (fun _ al=>Nat.lt_of_lt_of_le al O.size) _ _ (D.aS (fun b al=>O.block b al) _ _ h)
theorem Sl.on{w ab:World}{A:L3}{n:Nat}{l:List D}(h:Sl w (av w) A n l)(O:Below w.heap.size w ab):Sl ab (av ab) A n l:=
 (h.al (fun b al=>O.block b al)).mono (fun _ al=>Nat.lt_of_lt_of_le al O.size)
structure Fr(M:Nat→Prop)(w ab:World):Prop where
 os:ab.os=w.os
 tape:ab.tape=w.tape
 output:ab.output=w.output
 size:w.heap.size≤ab.heap.size
 block:∀k,k<w.heap.size→¬M k→ab.heap[k]?=w.heap[k]?
abbrev Ext:World→World→Prop:=Fr fun _=>False
section
variable {M M':Nat→Prop} {a b c:World}
theorem Fr.refl(M:Nat→Prop)(w:World):Fr M w w:=⟨rfl,rfl,rfl,Nat.le_refl _,fun _ _ _=>rfl⟩
theorem Fr.trans(h:Fr M a b)(k:Fr M b c):Fr M a c:=
 ⟨k.os.trans h.os,k.tape.trans h.tape,k.output.trans h.output,Nat.le_trans h.size k.size,fun i an hn=>(k.block i (Nat.lt_of_lt_of_le an h.size) hn).trans (h.block i an hn)⟩
theorem Fr.mono(h:Fr M a b)(hM:∀k,M k→M' k):Fr M' a b:=⟨h.os,h.tape,h.output,h.size,fun k ap hn=>h.block k ap fun hm=>hn (hM k hm)⟩
theorem Fr.of(h:Below a.heap.size a b):Fr M a b:=⟨h.os,h.tape,h.output,h.size,fun k ap _=>h.block k ap⟩
theorem Fr.below{B:Nat}(h:Fr M a b)(aR:B≤a.heap.size)(hM:∀k,k<B→¬M k):Below B a b:=⟨h.os,h.tape,h.output,h.size,fun k ap=>h.block k (Nat.lt_of_lt_of_le ap aR) (hM k ap)⟩
theorem Fr.low(h:Fr M a b)(hM:∀k,M k→a.heap.size≤k):Ext a b:=⟨h.os,h.tape,h.output,h.size,fun k ap _=>h.block k ap fun hm=>by have:=hM k hm;omega⟩
theorem Fr.ext(h:Ext a b):Below a.heap.size a b:=h.below (Nat.le_refl _) fun _ _ h=>h
theorem Fr.drew(h:Fr M a b):Fr M a b.drew:=⟨h.os,h.tape,h.output,h.size,h.block⟩
theorem Fr.drewN(h:Fr M a b)(n:Nat):Fr M a (b.drewN n):=⟨h.os,h.tape,h.output,h.size,h.block⟩
theorem Fr.alloc(h:Fr M a b)(o:Obj):Fr M a (b.alloc o):=
 ⟨h.os,h.tape,h.output,by have:=h.size;simp;omega,fun k ap hn=>(Below.heap_alloc b o k (Nat.lt_of_lt_of_le ap h.size)).trans (h.block k ap hn)⟩
theorem Fr.setCell(h:Fr M a b){p:Addr}(hp:M p.block∨a.heap.size≤p.block)(v:Value):Fr M a (b.setCell p v):=by
 refine⟨h.os,h.tape,h.output,by simpa using h.size,fun k ap hn=>?_⟩;have:k≠p.block:=by
  rintro rfl;rcases hp with hp|hp
  ·exact hn hp
  ·omega
 rw[Below.heap_setCell _ _ _ _ this];exact h.block k ap hn
theorem Fr.eR(h:Fr M a b)(k:Below a.heap.size b c):Fr M a c:=
 ⟨k.os.trans h.os,k.tape.trans h.tape,k.output.trans h.output,Nat.le_trans h.size k.size,fun i an hn=>(k.block i an).trans (h.block i an hn)⟩
theorem Fr.grown{row:Option Nat}(h:Fr M a b)(a9:b.grownBy c row)(ba:∀g,row=some g→M g∨a.heap.size≤g):Fr M a c:=by
 refine⟨a9.os.trans h.os,a9.tape.trans h.tape,a9.output.trans h.output,Nat.le_trans h.size a9.size,fun k ap hn=>?_⟩;refine(a9.block k (Nat.lt_of_lt_of_le ap h.size) fun e=>?_).trans (h.block k ap hn);rcases ba k e.symm with ac|ac
 ·exact hn ac
 ·omega
theorem Fr.cell(h:Fr M a b){k j:Nat}(ap:k<a.heap.size)(hn:¬M k):b.cell? ⟨k,j,none⟩=a.cell? ⟨k,j,none⟩:=World.cell?_of_block (h.block k ap hn)
theorem Fr.frozen(h:Fr M a b){k j:Nat}(ap:k<a.heap.size)(hn:¬M k):b.frozen? ⟨k,j,none⟩=a.frozen? ⟨k,j,none⟩:=by
 simp only[World.frozen?,h.block k ap hn]
theorem Fr.two(h:Fr M a b):(∀k j,k<a.heap.size→¬M k→b.cell? ⟨k,j,none⟩=a.cell? ⟨k,j,none⟩)∧(∀k j,k<a.heap.size→¬M k→b.frozen? ⟨k,j,none⟩=a.frozen? ⟨k,j,none⟩):=
 ⟨fun _ _ ap hn=>h.cell ap hn,fun _ _ ap hn=>h.frozen ap hn⟩
theorem Fr.tM(h:Ext a b):(∀k j,k<a.heap.size→b.cell? ⟨k,j,none⟩=a.cell? ⟨k,j,none⟩)∧(∀k j,k<a.heap.size→b.frozen? ⟨k,j,none⟩=a.frozen? ⟨k,j,none⟩):=
 ⟨fun _ _ ap=>h.cell ap (fun h=>h),fun _ _ ap=>h.frozen ap (fun h=>h)⟩
theorem Fr.twod(h:Fr M a.drew b):(∀k j,k<a.heap.size→¬M k→b.cell? ⟨k,j,none⟩=a.cell? ⟨k,j,none⟩)∧(∀k j,k<a.heap.size→¬M k→b.frozen? ⟨k,j,none⟩=a.frozen? ⟨k,j,none⟩):=
 ⟨fun _ _ ap hn=>h.cell ap hn,fun _ _ ap hn=>h.frozen ap hn⟩
theorem Fr.Hx(h:Ext a.drew b):(∀k j,k<a.heap.size→b.cell? ⟨k,j,none⟩=a.cell? ⟨k,j,none⟩)∧(∀k j,k<a.heap.size→b.frozen? ⟨k,j,none⟩=a.frozen? ⟨k,j,none⟩):=
 ⟨fun _ _ ap=>h.cell ap (fun h=>h),fun _ _ ap=>h.frozen ap (fun h=>h)⟩
theorem Fr.jr(h:Ext a.drew.drew b):(∀k j,k<a.heap.size→b.cell? ⟨k,j,none⟩=a.cell? ⟨k,j,none⟩)∧(∀k j,k<a.heap.size→b.frozen? ⟨k,j,none⟩=a.frozen? ⟨k,j,none⟩):=
 ⟨fun _ _ ap=>h.cell ap (fun h=>h),fun _ _ ap=>h.frozen ap (fun h=>h)⟩
theorem Fr.Jv(h:Fr M a.drew.drew b):(∀k j,k<a.heap.size→¬M k→b.cell? ⟨k,j,none⟩=a.cell? ⟨k,j,none⟩)∧(∀k j,k<a.heap.size→¬M k→b.frozen? ⟨k,j,none⟩=a.frozen? ⟨k,j,none⟩):=
 ⟨fun _ _ ap hn=>h.cell ap hn,fun _ _ ap hn=>h.frozen ap hn⟩
theorem Fr.aF(h:Fr M a.drew b):Fr M a b:=⟨h.os,h.tape,h.output,h.size,h.block⟩
end
abbrev off(M:Nat→Prop)(w:World):Nat→Prop:=fun b=>b<w.heap.size∧¬M b
section
variable {M:Nat→Prop} {w ab:World}
theorem uS(h:Fr M w ab):∀b,off M w b→off M ab b:=fun _ O=>⟨Nat.lt_of_lt_of_le O.1 h.size,O.2⟩
theorem D.c8{d:D}{cs:List Value}(h:d.rep w (off M w) cs)(O:Fr M w ab):d.rep ab (off M ab) cs:=
 D.aL (uS O) _ _ (D.aS (fun b al=>O.block b al.1 al.2) _ _ h)
theorem Sl.c8{A:L3}{n:Nat}{l:List D}(h:Sl w (off M w) A n l)(O:Fr M w ab):Sl ab (off M ab) A n l:=
 (h.al (fun b al=>O.block b al.1 al.2)).mono (uS O)
end
def aq(w:World)(g:Nat)(t:TypeId)(cs:Array Value):Prop:=w.heap[g]?=some (.cells cs t (0,0))
section
variable {w ab:World} {g:Nat} {t:TypeId} {cs:Array Value} {M:Nat→Prop}
theorem aq.lt(h:aq w g t cs):g<w.heap.size:=by
 rcases Nat.lt_or_ge g w.heap.size with al|ai
 ·exact al
 ·unfold aq at h;rw[Array.getElem?_eq_none ai] at h;cases h
theorem aq.cell(h:aq w g t cs)(i:Nat):w.cell? ⟨g,i,none⟩=cs[i]?:=cell_of_row w g i cs t (0,0) h
theorem aq.frozen(h:aq w g t cs)(i:Nat):w.frozen? ⟨g,i,none⟩=false:=by
 unfold aq at h;simp[World.frozen?,h]
theorem aq.two(h:aq w g t cs):(∀i,w.cell? ⟨g,i,none⟩=cs[i]?)∧(∀i,w.frozen? ⟨g,i,none⟩=false)∧g<w.heap.size:=⟨h.cell,h.frozen,h.lt⟩
theorem aq.new(w:World)(t:TypeId)(cs:Array Value):aq (w.alloc (.cells cs t)) w.heap.size t cs:=heap_alloc_new w _
theorem aq.gC(w:World)(t:TypeId)(cs:Array Value)(a9:g=w.heap.size):aq (w.alloc (.cells cs t)) g t cs:=by
 subst a9;exact heap_alloc_new w _
theorem aq.drew(h:aq w g t cs):aq w.drew g t cs:=h
theorem aq.alloc(h:aq w g t cs)(o:Obj):aq (w.alloc o) g t cs:=(Below.heap_alloc w o g h.lt).trans h
theorem aq.aM(h:aq w g t cs)(i:Nat)(u:Value):aq (w.setCell ⟨g,i,none⟩ u) g t (cs.setIfInBounds i u):=by
 unfold aq at h ⊢;simp[World.setCell,Array.getElem?_modify,h]
theorem aq.JN(h:aq w g t cs){p:Addr}(hp:g≠p.block)(u:Value):aq (w.setCell p u) g t cs:=(Below.heap_setCell w p u g hp).trans h
theorem aq.below{B:Nat}(h:aq w g t cs)(O:Below B w ab)(a9:g<B):aq ab g t cs:=(O.block g a9).trans h
theorem aq.on(h:aq w g t cs)(O:Fr M w ab)(a9:¬M g):aq ab g t cs:=(O.block g h.lt a9).trans h
theorem aq.aj(h:aq w g t cs)(O:Ext w ab):aq ab g t cs:=(O.block g h.lt fun h=>h).trans h
theorem aq.grown{row:Option Nat}(h:aq w g t cs)(O:w.grownBy ab row)(a9:some g≠row):aq ab g t cs:=(O.block g h.lt a9).trans h
end
theorem PU:(∀(t:Array Value) (d:List Deferred) (i:Nat) (v:Value),Act.put ⟨t,d⟩ (some i) v=⟨t.setIfInBounds i v,d⟩)∧(∀(l:List Value) (i:Nat) (v:Value),l.toArray.setIfInBounds i v=(l.set i v).toArray)∧(∀(x v:Value) (l:List Value),(x::l).set 0 v=v::l)∧(∀(x v:Value) (l:List Value) (i:Nat),(x::l).set (i+1) v=x::l.set i v)∧
  (∀(l:List Oper) (i:Nat) (h:i<l.toArray.size),l.toArray[i]'h=l[i]'(by simpa using h))∧(∀(x:Oper) (l:List Oper) (h:0<(x::l).length),(x::l)[0]'h=x)∧(∀(x:Oper) (l:List Oper) (i:Nat) (h:i+1<(x::l).length),(x::l)[i+1]'h=l[i]'(by simpa using h)):=
 ⟨fun _ _ _ _=>rfl,fun _ _ _=>by simp,fun _ _ _=>rfl,fun _ _ _ _=>rfl,fun _ _ _=>by simp,fun _ _ _=>rfl,fun _ _ _ _=>rfl⟩
section
variable {P:Program} {ops:Array Oper} {Q:Exit→Act→World→Prop} {R:World→World→Prop} {M:Nat→Prop} {tails:List Nat} {i:Nat} {o:Oper} {v:Value} {a r:Act} {w:World}
theorem pf{rest:List (Nat×Nat)}(h:ca P ops Q R rest r w)(an:ops[i]?=some o:=by rfl)(hw:Region.wanted o (yielded ops a.tmps)=true:=by rfl)(bG:∀V,(execOp a.eval o).run P V=.ok (.value v) V:=by intro V;(go_simp<;>with_reducible rfl))(bz:a.put o.dst v=r:=by (simp only[PU];rfl)) :
  ca P ops Q R ((i,3)::rest) a w:=bu an hw bG (bz▸h)
theorem tf{rest:PT}(h:cR P ops Q R tails rest r w)(an:ops[i]?=some o:=by rfl)(hw:Region.wanted o (yielded ops a.tmps)=true:=by rfl)(bG:∀V,(execOp a.eval o).run P V=.ok (.value v) V:=by intro V;(go_simp<;>with_reducible rfl))(bz:a.put o.dst v=r:=by (simp only[PU];rfl)) :
  cR P ops Q R tails (.free i rest) a w:=lx an hw bG (bz▸h)
theorem ph{rest:List (Nat×Nat)}(h:ca P ops Q R rest r w)(an:ops[i]?=some o:=by rfl)(hw:Region.wanted o (yielded ops a.tmps)=true:=by rfl)(bG:∀V,R w V→(execOp a.eval o).run P V=.ok (.value v) V:=by intro V hV;obtain⟨hVc,hVf⟩:=Fr.Hx hV;(go_simp<;>with_reducible rfl))(bz:a.put o.dst v=r:=by (simp only[PU];rfl)) :
  ca P ops Q R ((i,0)::rest) a w:=bS an hw bG (bz▸h)
theorem th{rest:PT}(h:cR P ops Q R tails rest r w)(an:ops[i]?=some o:=by rfl)(hw:Region.wanted o (yielded ops a.tmps)=true:=by rfl)(bG:∀V,R w V→(execOp a.eval o).run P V=.ok (.value v) V:=by intro V hV;obtain⟨hVc,hVf⟩:=Fr.Hx hV;(go_simp<;>with_reducible rfl))(bz:a.put o.dst v=r:=by (simp only[PU];rfl)) :
  cR P ops Q R tails (.held i rest) a w:=cz an hw bG (bz▸h)
theorem KP{rest:List (Nat×Nat)}(h:ca P ops Q R rest r w)(an:ops[i]?=some o:=by rfl)(hw:Region.wanted o (yielded ops a.tmps)=true:=by rfl)(bG:∀V,R w V→(execOp a.eval o).run P V=.ok (.value v) V:=by intro V hV;obtain⟨hVc,hVf⟩:=Fr.tM hV;(go_simp<;>with_reducible rfl))(bz:a.put o.dst v=r:=by (simp only[PU];rfl)) :
  ca P ops Q R ((i,0)::rest) a w:=bS an hw bG (bz▸h)
theorem oQ{rest:List (Nat×Nat)}(h:ca P ops Q R rest r w)(an:ops[i]?=some o:=by rfl)(hw:Region.wanted o (yielded ops a.tmps)=true:=by rfl)(bG:∀V,R w V→(execOp a.eval o).run P V=.ok (.value v) V:=by intro V hV;obtain⟨hVc,hVf⟩:=Fr.twod hV;(go_simp<;>with_reducible rfl))(bz:a.put o.dst v=r:=by (simp only[PU];rfl)) :
  ca P ops Q R ((i,0)::rest) a w:=bS an hw bG (bz▸h)
theorem nh{rest:PT}(h:cR P ops Q R tails rest r w)(an:ops[i]?=some o:=by rfl)(hw:Region.wanted o (yielded ops a.tmps)=true:=by rfl)(bG:∀V,R w V→(execOp a.eval o).run P V=.ok (.value v) V:=by intro V hV;obtain⟨hVc,hVf⟩:=Fr.twod hV;(go_simp<;>with_reducible rfl))(bz:a.put o.dst v=r:=by (simp only[PU];rfl)) :
  cR P ops Q R tails (.held i rest) a w:=cz an hw bG (bz▸h)
theorem KQ{rest:List (Nat×Nat)}(h:ca P ops Q R rest r w)(an:ops[i]?=some o:=by rfl)(hw:Region.wanted o (yielded ops a.tmps)=true:=by rfl)(bG:∀V,R w V→(execOp a.eval o).run P V=.ok (.value v) V:=by intro V hV;obtain⟨hVc,hVf⟩:=Fr.two hV;(go_simp<;>with_reducible rfl))(bz:a.put o.dst v=r:=by (simp only[PU];rfl)) :
  ca P ops Q R ((i,0)::rest) a w:=bS an hw bG (bz▸h)
theorem Ku{rest:PT}(h:cR P ops Q R tails rest r w)(an:ops[i]?=some o:=by rfl)(hw:Region.wanted o (yielded ops a.tmps)=true:=by rfl)(bG:∀V,R w V→(execOp a.eval o).run P V=.ok (.value v) V:=by intro V hV;obtain⟨hVc,hVf⟩:=Fr.two hV;(go_simp<;>with_reducible rfl))(bz:a.put o.dst v=r:=by (simp only[PU];rfl)) :
  cR P ops Q R tails (.held i rest) a w:=cz an hw bG (bz▸h)
theorem Ga{rest:List (Nat×Nat)}(h:ca P ops Q R rest r w)(an:ops[i]?=some o:=by rfl)(hw:Region.wanted o (yielded ops a.tmps)=true:=by rfl)(bG:∀V,R w V→(execOp a.eval o).run P V=.ok (.value v) V:=by intro V hV;obtain⟨hVc,hVf⟩:=Fr.Jv hV;(go_simp<;>with_reducible rfl))(bz:a.put o.dst v=r:=by (simp only[PU];rfl)) :
  ca P ops Q R ((i,0)::rest) a w:=bS an hw bG (bz▸h)
theorem rz{ab:World}{rest:List (Nat×Nat)}{M:Nat→Prop}(h:ca P ops Q (Fr M) rest r ab)(an:ops[i]?=some o:=by rfl)(hx:∀K:Act→World→Prop,K r ab→if Region.wanted o (yielded ops a.tmps)=true then o.wp P a w K Q else K (a.put o.dst undef) w:=by (intro K hK;go_simp;(try simp only[PU] at hK ⊢);exact hK))(cB:Fr M w ab:=by exact(Fr.refl _ _).alloc _) :
  ca P ops Q (Fr M) ((i,1)::rest) a w:=aG an fun K hK=>hx K (hK _ _ cB h)
theorem dT{ab:World}{p:PT}{M:Nat→Prop}(h:cR P ops Q (Fr M) tails p r ab)(an:ops[i]?=some o:=by rfl)(hx:∀K:Act→World→Prop,K r ab→if Region.wanted o (yielded ops a.tmps)=true then o.wp P a w K Q else K (a.put o.dst undef) w:=by (intro K hK;go_simp;(try simp only[PU] at hK ⊢);exact hK))(cB:Fr M w ab:=by exact(Fr.refl _ _).alloc _)(hT:tails.contains i=false:=by rfl) :
  oI P ops Q (Fr M) tails i p a w:=aB an (fun K hK=>hx K (hK _ _ cB h)) hT
end
section
variable {P:Program} {ops:Array Oper} {Q:Exit→Act→World→Prop} {M:Nat→Prop} {id:Nat} {a:Act} {w:World}
theorem eC(M:Nat→Prop)(e:List (Nat×Nat))(h:ca P ops Q (Fr M) e a w.drew)(ac:P.follows .mixedOrders=true:=by kernel_rfl)(au:w2 .any ops e=true:=by kernel_rfl)(bA:∀c a d v w,Q (.panic c) (a.put d v) w→Q (.panic c) a w:=by (intro _ _ d _ _ h;first|(cases d<;>exact h)|exact hQ0 _ _ _ _ _ h)):(Code.region id ops true).wp P Q a w:=
 kU (Fr M) e ac au (Fr.refl _) (fun _ _ _ h k=>h.trans k) bA h
theorem rC(M:Nat→Prop)(tails:List Nat)(p:PT)(h:cR P ops Q (Fr M) tails p a w.drew)(ac:P.follows .mixedOrders=true:=by kernel_rfl)(au:xn .any ops tails p=true:=by kernel_rfl)(bA:∀c a d v w,Q (.panic c) (a.put d v) w→Q (.panic c) a w:=by (intro _ _ d _ _ h;first|(cases d<;>exact h)|exact hQ0 _ _ _ _ _ h)):(Code.region id ops true).wp P Q a w:=
 ra (Fr M) tails p ac au (Fr.refl _) (fun _ _ _ h k=>h.trans k) bA h
end
theorem dq{K:Act→World→Prop}{c:World→Prop}{b:Act→World→Prop}{a r:Act}{ab:World}(hK:∀r ab,c ab→b r ab→K r ab)(cB:c ab)(h:b r ab)(e:a=r:=by ((try simp only[PU]);rfl)):K a ab:=hK _ _ cB (e▸h)
theorem dP{K:Act→World→Prop}{b:Act→World→Prop}{a r:Act}{ab:World}(hK:∀r ab,b r ab→K r ab)(h:b r ab)(e:a=r:=by ((try simp only[PU]);rfl)):K a ab:=hK _ _ (e▸h)
end Go.Proofs.YtkhnkojkplbioaaGreat
