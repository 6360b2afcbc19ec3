/- Part 49 of the proof. No condition of its own. -/
import Derived.Test.YtglbpimocmhojaaGreatQ48
namespace Go.Proofs.YtglbpimocmhojaaGreat
open Go.RowKit Go.Proofs.Tryz
set_option maxRecDepth 1000000
set_option maxHeartbeats 25600000
set_option linter.unusedVariables false
theorem tq.fx{u:ay}(h:tq u):u.procs.length<=100000/\∀q∈u.procs,q.code.length<=100000:=by
 refine⟨by have:=h.ok.DT;omega,λq bv=>?_⟩;obtain⟨s,hs,hl,_⟩:=(h.ok.procs q bv).code;rw[hs,KF];simp only[KQ,KW];omega
theorem mvalid_ok(u:ay)(s:aj)(N:Nat)(p:UV)(q:SV)(w:World)(hU:tq u)(hS:aV u N s)(hN:N<=100000)(hu:p.Ok w u)(hs:q.Ok w s) :
  Calls prog 12 #[.agg (p.val u),.agg (q.val s)] w λe ab=>e=.returned (.bool true)/\Ext w ab:=by
 have a1:=hS.small hU.ok hN;have qK:q.hn=s.threads.length:=by have:=hs.at_.h.1;simpa using this.symm
 refine(DQ u s p q w hU.ok.yp hu hs hU.fx.1 hU.fx.2 (aC a1.h) λt ht=>⟨by have:=(a1.f t ht).1;omega,λf J=>by have:=((a1.f t ht).2 f J);omega⟩).mono ?_;rintro e ab ⟨b,rfl,O,aw⟩;exact⟨by rw[O.2 (rS hU.ok hS)],aw⟩
theorem IE(s:aj)(q ar:SV)(w:World)(h:q.Ok w s)(F:ar.Ok w s)(a1:Small s):Calls prog 11 #[.agg (q.val s),.agg (ar.val s)] w λe ab=>e=.returned (.bool true)/\Ext w ab:=
 (ID s s q ar w h F a1).mono λe ab ⟨b,he,O,aw⟩=>⟨by rw[he,O.2 rfl],aw⟩
end Go.Proofs.YtglbpimocmhojaaGreat
