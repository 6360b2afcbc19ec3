/- Part 43 of the proof. No condition of its own. -/
import Derived.Test.YtnhhdaggkiomoaaGreatQ24
import Derived.Test.YtnhhdaggkiomoaaGreatQ42
namespace Go.Proofs.YtnhhdaggkiomoaaGreat
open Go.RowKit Go.Proofs.Tryz
set_option maxRecDepth 1000000
set_option maxHeartbeats 25600000
set_option linter.unusedVariables false
theorem uW.gp{u:ay}(h:uW u):u.procs.length≤100000∧∀q∈u.procs,q.code.length≤100000:=by
 refine⟨by have:=h.ok.D1;omega,fun q bK=>?_⟩;obtain⟨s,hs,hl,_⟩:=(h.ok.procs q bK).code;rw[hs,KI];simp only[KT,KZ];omega
theorem qv(s:aj)(q ar:SV)(w:World)(h:q.Ok w s)(F:ar.Ok w s)(a1:Small s):Calls prog 15 #[.agg (q.val s),.agg (ar.val s)] w fun e ab=>e=.returned (.bool true)∧Ext w ab:=
 (IK s s q ar w h F a1).mono fun e ab ⟨b,he,O,aw⟩=>⟨by rw[he,O.2 rfl],aw⟩
end Go.Proofs.YtnhhdaggkiomoaaGreat
