/- Part 48 of the proof. No condition of its own. -/
import Derived.Test.YtnhhdaggkiomoaaGreatQ01
namespace Go.Proofs.YtnhhdaggkiomoaaGreat
open Go.RowKit Go.Proofs.Tryz
set_option maxRecDepth 1000000
set_option maxHeartbeats 25600000
set_option linter.unusedVariables false
theorem H9{w W:World}{o2 o3 o4:Obj}{t:TypeId}{cs:Array Value}(h:(((w.alloc (.cells cs t)).alloc o2).alloc o3).alloc o4=W):aq W (w.heap.size) t cs:=by subst h;exact((Lp).alloc _).alloc _|>.alloc _
theorem Ia{w W:World}{o1 o3 o4:Obj}{t:TypeId}{cs:Array Value}(h:(((w.alloc o1).alloc (.cells cs t)).alloc o3).alloc o4=W):aq W (w.heap.size+1) t cs:=by subst h;exact((aq.hL _ _ _ (by simp)).alloc _).alloc _
theorem Ib{w W:World}{o1 o2 o4:Obj}{t:TypeId}{cs:Array Value}(h:(((w.alloc o1).alloc o2).alloc (.cells cs t)).alloc o4=W):aq W (w.heap.size+2) t cs:=by subst h;exact(aq.hL _ _ _ (by simp)).alloc _
theorem Ic{w W:World}{o1 o2 o3:Obj}{t:TypeId}{cs:Array Value}(h:(((w.alloc o1).alloc o2).alloc o3).alloc (.cells cs t)=W):aq W (w.heap.size+3) t cs:=by subst h;exact aq.hL _ _ _ (by simp)
theorem I0{w W:World}{o1 o2 o3 o4:Obj}(h:(((w.alloc o1).alloc o2).alloc o3).alloc o4=W):Ext w W:=by subst h;exact(((Lo.alloc _).alloc _).alloc _).alloc _
end Go.Proofs.YtnhhdaggkiomoaaGreat
