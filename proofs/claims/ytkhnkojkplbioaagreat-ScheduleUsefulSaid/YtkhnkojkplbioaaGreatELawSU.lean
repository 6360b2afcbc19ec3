/- The law ScheduleUseful, walked. No condition but the fB of slices. -/
import Derived.Test.YtkhnkojkplbioaaGreatESchC
namespace Go.Proofs.YtkhnkojkplbioaaGreat
open Go.RowKit
set_option maxRecDepth 1000000
set_option linter.unusedVariables false
set_option maxRecDepth 1000000 in
set_option maxHeartbeats 1600000 in
theorem scheduleUseful_any (A B : Option Addr) (n c m d : Nat) (l pkq7 : List Int) (w : World) (h : cp (EF cP) 1 w w.heap.size A n l) (hp : cp (EF cP) 1 w w.heap.size B m pkq7) (hc : n <= c) :
    Calls Tryz.prog 9 #[.slice A n c, .slice B m d] w λe w' => e = .returned (.bool true) /\ Below w.heap.size w w' := by
  have H := ae (And.intro h hp)
  clear h hp
  go_enter Tryz.func9, Tryz.ntmps9
  go_wp2_with (fail)
  refine (Fi A n c l w H.o.1 hc).mono ?_
  rintro e w1q7 ⟨u, b0q7, b1q7, b2q7, b3q7, b4, b5q7, m0q7, m1q7, m2q7, m3q7, m4q7, m5q7, d0, d1, d2, d3, d4, d5, GA, gn, gc, MA, mn, mc, PA, pn, pc, rfl, hU, _, _, _, hrep, hE1⟩
  have hu1 : (⟨GA, gn, gc, MA, mn, mc, PA, pn, pc⟩ : UV).Ok w1q7 u := uvAt hrep λb hbq7 => hbq7.2
  have H1 := ae (And.intro hU (And.intro hu1 hE1))
  clear hU hu1 hE1 hrep
  go_upto_region 2 with (fail)
  generalize hX : World.alloc _ _ = X
  have hEX : Ext w1q7 X := by rw [<- hX]; exact (((Fr.refl _ _).alloc _).alloc _).alloc _
  have hBX : aq X (w1q7.heap.size + 1) 30 #[.slice GA gn gc, .slice MA mn mc, .slice PA pn pc, .int .i64 u.main] := by rw [<- hX]; exact (aq.gC _ _ _ (by simp)).alloc _
  have hEw := H1.o.2.2.trans hEX
  have HXq7 := ae (And.intro (H1.o.2.1.on hEX) (And.intro hEw (And.intro hBX (H.o.2.c8 hEw.ext hEw.size))))
  clear hX hEX hBX hEw
  go_wp2_with (fail)
  refine (sc B m d 100 pkq7 X HXq7.o.2.2.2 (by omega)).mono ?_
  rintro r w3q7 ⟨A3q7, c3, rfl, hc3, hl3, hb3⟩
  have hlen3 := picksL_len pkq7 100
  generalize cr pkq7 100 = L at *
  generalize hn3 : L.length = n3 at *
  have H3q7 := ae (And.intro (show cp (EF cP) 1 w3q7 w3q7.heap.size A3q7 n3 L from hl3) (And.intro (show Ext X w3q7 from belowE hb3) hn3))
  clear hc3 hl3 hb3 hn3
  obtain ⟨x0q7, x0f, x0l⟩ := (HXq7.o.2.2.1.aj H3q7.o.2.1).two
  go_wp2_with (fail)
  refine (suseful u L A3q7 n3 c3 w3q7 ⟨GA, gn, gc, MA, mn, mc, PA, pn, pc⟩ H1.o.1 (HXq7.o.1.on H3q7.o.2.1) H3q7.o.1 (by omega)).mono ?_
  rintro e w4q7 ⟨QA, qnq7, qc, rfl, hqn, hqc, hql, hE4⟩
  have hXE := H3q7.o.2.1.trans hE4
  have H4q7 := ae (And.intro (HXq7.o.1.on hXE) (And.intro (H3q7.o.1.c8 hE4.ext hE4.size) (And.intro hql (And.intro hXE (HXq7.o.2.2.1.aj hXE)))))
  have hul := Nat.le_trans (Iw (u := u) L (dG u)) (Nat.le_of_eq H3q7.o.2.2)
  have hqn2 : qnq7 <= 100 := by omega
  clear hql hE4 hXE x0q7 x0f x0l
  obtain ⟨x0q7, x0f, x0l⟩ := H4q7.o.2.2.2.2.two
  go_wp2_with (fail)
  have hok := run_state H1.o.1 (l := L) (Nat.le_of_eq H3q7.o.2.2)
  have hsm := hok.small H1.o.1.ok (by omega)
  have hrr : ∀ V, Ext w4q7 V -> Calls Tryz.prog 36 #[.agg ((⟨GA, gn, gc, MA, mn, mc, PA, pn, pc⟩ : UV).val u), .slice QA qnq7 qc] V (zC V (gE u (dG u) L) qnq7) := λV hV => by
    have := srun u (iU u (dG u) L) QA qnq7 qc V ⟨GA, gn, gc, MA, mn, mc, PA, pn, pc⟩ H1.o.1 (H4q7.o.1.on hV) ((Sl.ints H4q7.o.2.2.1).c8 hV.ext hV.size) (by omega)
    rw [run_use, use_use, hqn] at this
    exact this
  have hr1 := srun u L A3q7 n3 c3 w4q7 ⟨GA, gn, gc, MA, mn, mc, PA, pn, pc⟩ H1.o.1 H4q7.o.1 H4q7.o.2.1 (by omega)
  rw [hqn] at hr1
  generalize gE u (dG u) L = S at *
  refine hr1.mono ?_
  rintro e w5q7 ⟨⟨SC, cmq7, cdq7, TC, tm2, td2, HCq7, hm2, hd2⟩, rfl, hq5, hE5⟩
  have hq5' := hq5.ok λb hbq7 => hbq7.2
  have H5q7 := ae (And.intro hq5' (And.intro hE5 (And.intro hsm hrr)))
  clear hq5 hq5' hE5 x0q7 x0f x0l hok hsm hrr hr1 hqn
  dsimp only [SV.val]
  go_upto_region 5 with (fail)
  generalize hZq7 : World.alloc _ _ = Z
  have hEZ : Ext w5q7 Z := by rw [<- hZq7]; exact (Fr.refl _ _).alloc _
  have hBZ : aq Z w5q7.heap.size 40 #[.slice SC cmq7 cdq7, .slice TC tm2 td2, .slice HCq7 hm2 hd2, .int .i64 S.fault] := by rw [<- hZq7]; exact aq.new _ _ _
  have HZq7 := ae (And.intro (H5q7.o.1.on hEZ) (And.intro (H5q7.o.2.1.trans hEZ) hBZ))
  clear hZq7 hEZ hBZ
  obtain ⟨x0q7, x0f, x0l⟩ := (H4q7.o.2.2.2.2.aj HZq7.o.2.1).two
  go_wp2_with (fail)
  refine (H5q7.o.2.2.2 Z HZq7.o.2.1).mono ?_
  rintro e w6q7 ⟨⟨SD, dmq7, ddq7, TD, tm3, td3, HDq7, hm3, hd3⟩, rfl, hq6, hE6⟩
  have hq6' := hq6.ok λb hbq7 => hbq7.2
  have H6q7 := ae (And.intro hq6' hE6)
  clear hq6 hq6' hE6 x0q7 x0f x0l
  dsimp only [SV.val]
  go_upto_region 6 with (fail)
  generalize hV : World.alloc _ _ = V
  have hEV : Ext w6q7 V := by rw [<- hV]; exact (Fr.refl _ _).alloc _
  have hBV : aq V w6q7.heap.size 40 #[.slice SD dmq7 ddq7, .slice TD tm3 td3, .slice HDq7 hm3 hd3, .int .i64 S.fault] := by rw [<- hV]; exact aq.new _ _ _
  have HVq7 := ae (And.intro (H6q7.o.1.on hEV) (And.intro (H6q7.o.2.trans hEV) hBV))
  clear hV hEV hBV
  obtain ⟨x0q7, x0f, x0l⟩ := (HZq7.o.2.2.aj HVq7.o.2.1).two
  obtain ⟨y0q7, y0f, y0l⟩ := HVq7.o.2.2.two
  have qzq7 : ((qnq7 : Int) == (qnq7 : Int)) = true := by simp
  go_wp2_with (fail)
  refine (sameE S ⟨SC, cmq7, cdq7, TC, tm2, td2, HCq7, hm2, hd2⟩ ⟨SD, dmq7, ddq7, TD, tm3, td3, HDq7, hm3, hd3⟩ V (HZq7.o.1.on HVq7.o.2.1) HVq7.o.1 H5q7.o.2.2.1).mono ?_
  rintro e w7q7 ⟨rfl, hE7⟩
  have H7q7 := ae hE7
  clear hE7 x0q7 x0f x0l y0q7 y0f y0l
  go_wp2_with (fail)
  refine (awake10 w7q7).mono ?_
  rintro e w8q7 ⟨rfl, hE8⟩
  go_wp2_with (fail)
  go_ret
  exact ⟨rfl, Fr.ext (((((HXq7.o.2.1.trans H4q7.o.2.2.2.1).trans HZq7.o.2.1).trans HVq7.o.2.1).trans H7q7.o).trans hE8)⟩
end Go.Proofs.YtkhnkojkplbioaaGreat
