/- Part 45 of the proof. No condition of its own. -/
import Derived.Test.YtkhnkojkplbioaaGreatQ25
import Derived.Test.YtkhnkojkplbioaaGreatQ44
import Derived.Test.YtkhnkojkplbioaaGreatQ50
namespace Go.Proofs.YtkhnkojkplbioaaGreat
open Go.RowKit Go.Proofs.Tryz
set_option maxRecDepth 1000000
set_option maxHeartbeats 25600000
set_option linter.unusedVariables false
theorem tV.fB{u:ay}(h:tV u):u.procs.length<=100000/\∀q∈u.procs,q.code.length<=100000:=by
 refine⟨by have:=h.ok.EH;omega,λq bA=>?_⟩;obtain⟨s,hs,hl,_⟩:=(h.ok.procs q bA).code;rw[hs,Lm];simp only[Lx,LG];omega
theorem IG(u:ay)(s:ai)(N:Nat)(p:UV)(q:SV)(w:World)(hU:tV u)(hS:aX u N s)(hN:N<=100000)(hu:p.Ok w u)(hs:q.Ok w s) :
  Calls prog 21 #[.agg (p.val u),.agg (q.val s)] w λe ab=>e=.returned (.bool true)/\Ext w ab:=by
 have bI:=hS.small hU.ok hN;have pd:q.hn=s.threads.length:=by have:=hs.at_.h.1;simpa using this.symm
 refine(ED u s p q w hU.ok.vB hu hs hU.fB.1 hU.fB.2 (aD bI.h) λt ht=>⟨by have:=(bI.f t ht).1;omega,λf J=>by have:=((bI.f t ht).2 f J);omega⟩).mono ?_;rintro e ab ⟨b,rfl,O,aw⟩;exact⟨by rw[O.2 (ss hU.ok hS)],aw⟩
theorem vg(s:ai)(q ar:SV)(w:World)(h:q.Ok w s)(F:ar.Ok w s)(bI:Small s):Calls prog 20 #[.agg (q.val s),.agg (ar.val s)] w λe ab=>e=.returned (.bool true)/\Ext w ab:=
 (Jq s s q ar w h F bI).mono λe ab ⟨b,he,O,aw⟩=>⟨by rw[he,O.2 rfl],aw⟩
theorem Jj(s:ai)(q ar:SV)(w:World)(h:q.Ok w s)(F:ar.Ok w s)(bI:Small s):Calls prog 71 #[.agg (q.val s),.agg (ar.val s)] w λe ab=>e=.returned (.bool true)/\Ext w ab:=
 (Hr s s q ar w h F bI).mono λe ab ⟨b,he,O,aw⟩=>⟨by rw[he,O.2 rfl],aw⟩
end Go.Proofs.YtkhnkojkplbioaaGreat
