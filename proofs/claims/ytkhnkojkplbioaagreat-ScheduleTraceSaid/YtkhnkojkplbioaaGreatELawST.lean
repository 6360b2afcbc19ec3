/- The law ScheduleTrace, walked. No condition but the fB of slices. -/
import Derived.Test.YtkhnkojkplbioaaGreatESchC
import Derived.Test.YtkhnkojkplbioaaGreatESchT
namespace Go.Proofs.YtkhnkojkplbioaaGreat
open Go.RowKit
set_option maxRecDepth 1000000
set_option linter.unusedVariables false
set_option maxRecDepth 1000000 in
set_option maxHeartbeats 1600000 in
theorem scheduleTrace_any (A B : Option Addr) (n c m d : Nat) (l pkq7 : List Int) (w : World) (h : cp (EF cP) 1 w w.heap.size A n l) (hp : cp (EF cP) 1 w w.heap.size B m pkq7) (hc : n <= c) :
    Calls Tryz.prog 11 #[.slice A n c, .slice B m d] w λe w' => e = .returned (.bool true) /\ Below w.heap.size w w' := by
  have H := ae (And.intro h hp)
  clear h hp
  go_enter Tryz.func11, Tryz.ntmps11
  go_wp2_with (fail)
  refine (Fi A n c l w H.o.1 hc).mono ?_
  rintro e w1q7 ⟨u, b0q7, b1q7, b2q7, b3q7, b4, b5q7, m0q7, m1q7, m2q7, m3q7, m4q7, m5q7, d0, d1, d2, d3, d4, d5, GA, gn, gc, MA, mn, mc, PA, pn, pc, rfl, hU, _, _, _, hrep, hE1⟩
  have hu1 : (⟨GA, gn, gc, MA, mn, mc, PA, pn, pc⟩ : UV).Ok w1q7 u := uvAt hrep λb hbq7 => hbq7.2
  have H1 := ae (And.intro hU (And.intro hu1 hE1))
  clear hU hu1 hE1 hrep
  go_upto_region 2 with (fail)
  generalize hX : World.alloc _ _ = X
  have hEX : Ext w1q7 X := by rw [<- hX]; exact (((Fr.refl _ _).alloc _).alloc _).alloc _
  have hBX : aq X (w1q7.heap.size + 1) 30 #[.slice GA gn gc, .slice MA mn mc, .slice PA pn pc, .int .i64 u.main] := by rw [<- hX]; exact (aq.gC _ _ _ (by simp)).alloc _
  have hEw := H1.o.2.2.trans hEX
  have HXq7 := ae (And.intro (H1.o.2.1.on hEX) (And.intro hEw (And.intro hBX (H.o.2.c8 hEw.ext hEw.size))))
  clear hX hEX hBX hEw
  go_wp2_with (fail)
  refine (sc B m d 40 pkq7 X HXq7.o.2.2.2 (by omega)).mono ?_
  rintro r w3q7 ⟨A3q7, c3, rfl, hc3, hl3, hb3⟩
  have hlen3 := picksL_len pkq7 40
  generalize cr pkq7 40 = L at *
  generalize hn3 : L.length = n3 at *
  have H3q7 := ae (And.intro (show cp (EF cP) 1 w3q7 w3q7.heap.size A3q7 n3 L from hl3) (And.intro (show Ext X w3q7 from belowE hb3) hn3))
  clear hl3 hb3 hn3
  obtain ⟨x0q7, x0f, x0l⟩ := (HXq7.o.2.2.1.aj H3q7.o.2.1).two
  go_wp2_with (fail)
  refine (strace u L A3q7 n3 c3 w3q7 ⟨GA, gn, gc, MA, mn, mc, PA, pn, pc⟩ H1.o.1 (HXq7.o.1.on H3q7.o.2.1) H3q7.o.1 (by omega)).mono ?_
  rintro e w4q7 ⟨QA, qnq7, qc, rfl, hqn, hqc, hql, hE4⟩
  obtain rfl : n3 + 1 = qnq7 := by rw [<- hqn, trace_len, H3q7.o.2.2]
  have hXE := H3q7.o.2.1.trans hE4
  have H4q7 := ae (And.intro (HXq7.o.1.on hXE) (And.intro (H3q7.o.1.c8 hE4.ext hE4.size) (And.intro hql (And.intro hXE (HXq7.o.2.2.1.aj hXE)))))
  have hgl := (HXq7.o.2.2.1.aj hXE).lt
  clear hql hE4 hXE x0q7 x0f x0l hqn
  have qzq7 : (((n3 + 1 : Nat) : Int) != (n3 : Int) + 1) = false := by simp
  cases A3q7
  case' none =>
    have hn0 : n3 = 0 := by
      rcases Nat.eq_zero_or_pos n3 with h | h
      · exact h
      · obtain ⟨_, _, _, h2q7, _⟩ := H4q7.o.2.1.int h
        cases h2q7
    have HLE := ae (show ∀ i : Nat, i <= n3 -> i = 0 from λi hiq7 => by omega)
    clear hn0
  all_goals
    go_wp2_with (fail)
    go_loopw [10] (λivq7 wr => ∃ i : Nat, ivq7 = .int .i64 i /\ i <= n3 + 1 /\ Ext w4q7 wr) (λivq7 _ => n3 + 1 - (intOf ivq7).toNat)
    case atStart => exact ⟨0, rfl, by omega, Fr.refl _ _⟩
    case round =>
      obtain ⟨i, rfl, hiq7, hEq7⟩ := hrel
      have HEq7 := ae hEq7
      by_cases hlt : i <= n3
      · have hok := run_state H1.o.1 (l := L.take i) (m := 40) (by rw [List.length_take]; omega)
        have hsm := hok.small H1.o.1.ok (by omega)
        obtain ⟨tbq7, to, s, HGA, r3, hgc, HTA, tW, htc, HHA, pd, hhc, rfl, htb, hts, htq, t0, t1, t2, t3⟩ := (H4q7.o.2.2.1.on (Fr.ext hEq7)).stAt (k := i) (by omega)
        rw [trace_at L (dG u) i (by have := H3q7.o.2.2; omega)] at hts
        injection hts with hts
        subst hts
        have hli := Sl.ints (by rw [List.map_take]; exact (cp.ints (H4q7.o.2.1.c8 hEq7.ext hEq7.size) (P := av wr) λb hbq7 => hbq7).take (m := i) hlt)
        have hrr : ∀ (V : World) (ccq7 : Nat), Ext wr V -> Calls Tryz.prog 37 #[.agg ((⟨GA, gn, gc, MA, mn, mc, PA, pn, pc⟩ : UV).val u), .slice _ i ccq7] V (zC V (gE u (dG u) (L.take i)) _) := λV ccq7 hV => Kb u (L.take i) _ i ccq7 V ⟨GA, gn, gc, MA, mn, mc, PA, pn, pc⟩ H1.o.1 (H4q7.o.1.on (hEq7.trans hV)) (hli.c8 hV.ext hV.size) (by omega)
        generalize gE u (dG u) (L.take i) = S at *
        generalize (iU u (dG u) (L.take i)).length = z at *
        have HRR := ae (And.intro hrr (And.intro htq hsm))
        obtain ⟨x0q7, x0f, x0l⟩ := (H4q7.o.2.2.2.2.aj hEq7).two
        have htb2 : tbq7 < wr.heap.size := htb
        have hic : i <= c3 := by omega
        have hii : (i : Int) < (n3 : Int) + 1 := by omega
        clear hEq7 hok hsm hrr hli htq htb
        go_upto_region 9 with (fail)
        refine rC (λ_ => False) [9] (.held 0 (.free 1 (.free 2 (.free 3 (.pick [4, 8] (λi => bif i == 4 then .free 5 (.free 6 (.free 7 (.pick [8] (λ_ => .pick [9] (λ_ => .free 10 (.stop)))))) else .pick [4] (λ_ => .free 5 (.free 6 (.free 7 (.pick [9] (λ_ => .free 10 (.stop)))))))))))) ?_
        refine th ?_
        iterate 2 refine tf ?_
        try (have e0 := HLE.o i hlt; subst e0; simp only [Nat.zero_mul, Nat.add_zero] at t0 t1 t2 t3)
        refine tf ?_
        refine mu (P := ?_) (ops := ?_) (Q := ?_) (R := ?_) (tails := ?_) (rest := .pick [9] (λ_ => .free 10 (.stop))) (aa := ?_)
          (C := λ(gxq7 : Nat) (Y : Value) WV => Ext wr WV /\ aq WV gxq7 40 #[.slice none 0 0, .slice none 0 0, .slice none 0 0, .int .i64 0] /\ wr.heap.size <= gxq7 /\ ∃ q' : SV, Y = .agg (q'.val S) /\ q'.Is WV (λb => wr.heap.size <= b /\ b < WV.heap.size /\ b ≠ gxq7) S) (λkey => ?_) ?_
        rotate_left 6
        ·
          refine a2 ?_ ?_
          · skip
            refine aB rfl (λK hK => ?_) rfl
            go_simp
            refine (HRR.o.1 wr.drew _ (Fr.refl _ wr).drew).mono ?_
            rintro e w5q7 ⟨q', rfl, hq', hE2⟩
            refine dq hK (hE2) ?_
            clear hK K
            iterate 3 refine tf ?_
            refine ao ?_
            refine dT ?_
            generalize hZq7 : World.alloc _ _ = Z
            have e2 : Ext w5q7 Z := by rw [<- hZq7]; exact (Fr.refl _ _).alloc _
            have hs2 : wr.heap.size <= w5q7.heap.size := hE2.size
            have hs3 := e2.size
            have F : Ext wr Z /\ aq Z w5q7.heap.size 40 #[.slice none 0 0, .slice none 0 0, .slice none 0 0, .int .i64 0] /\ wr.heap.size <= w5q7.heap.size /\ ∃ q2q7 : SV, (Value.agg (q'.val S)) = .agg (q2q7.val S) /\ q2q7.Is Z (λb => wr.heap.size <= b /\ b < Z.heap.size /\ b ≠ w5q7.heap.size) S :=
              ⟨(Fr.aF hE2).trans e2, by rw [<- hZq7]; exact aq.new _ _ _, hs2, q', rfl, (hq'.al λb hbq7 => e2.block b hbq7.2 λh => h).mono λb hbq7 => by
                have hd : wr.drew.heap.size = wr.heap.size := rfl
                omega⟩
            clear hZq7 e2 hs2 hs3 hq' hE2
            revert F
            generalize w5q7.heap.size = gxq7
            generalize (Value.agg (q'.val S)) = Y
            intro F
            exact key gxq7 Y _ F
          · skip
            refine dT ?_
            generalize hV2 : World.drew (World.alloc _ _) = W1
            have e1 : Ext wr W1 := by rw [<- hV2]; exact ((Fr.refl _ _).alloc _).drew
            have hB1 : aq W1 wr.heap.size 40 #[.slice none 0 0, .slice none 0 0, .slice none 0 0, .int .i64 0] := by rw [<- hV2]; exact aq.new _ _ _
            have hs1' := hB1.lt
            refine ao ?_
            refine aB rfl (λK hK => ?_) rfl
            go_simp
            refine (HRR.o.1 W1 _ e1).mono ?_
            rintro e w5q7 ⟨q', rfl, hq', hE2⟩
            refine dq hK (hE2) ?_
            clear hK K
            iterate 3 refine tf ?_
            have hs2 := hE2.size
            have F : Ext wr w5q7 /\ aq w5q7 wr.heap.size 40 #[.slice none 0 0, .slice none 0 0, .slice none 0 0, .int .i64 0] /\ wr.heap.size <= wr.heap.size /\ ∃ q2q7 : SV, (Value.agg (q'.val S)) = .agg (q2q7.val S) /\ q2q7.Is w5q7 (λb => wr.heap.size <= b /\ b < w5q7.heap.size /\ b ≠ wr.heap.size) S :=
              ⟨e1.trans hE2, hB1.aj hE2, Nat.le_refl _, q', rfl, hq'.mono λb hbq7 => by omega⟩
            clear hV2 e1 hB1 hs1' hs2 hq' hE2
            revert F key
            generalize (Value.agg (q'.val S)) = Y
            intro key F
            exact key wr.heap.size Y _ F
        ·
          rintro gxq7 Y WV ⟨hE4, hBx, hgx, ⟨SC, cmq7, cdq7, TC, tm2, td2, HCq7, hm2, hd2⟩, rfl, hq4⟩
          dsimp only [SV.val]
          obtain ⟨y0q7, y0f, y0l⟩ := hBx.two
          clear x0q7 x0f
          refine ao ?_
          refine bQ rfl (λK hK => ?_) rfl
          go_simp
          refine dP hK ?_
          clear hK K
          refine tf ?_
          refine b9 ?_
          generalize hZq7 : World.setCell _ _ _ = Z
          obtain ⟨hBZ, hEZ, hFZ⟩ := bw (w := wr) [.slice SC cmq7 cdq7, .slice TC tm2 td2, .slice HCq7 hm2 hd2, .int .i64 S.fault] (by rfl) hBx hE4 hgx hZq7
          have hqZ : (⟨SC, cmq7, cdq7, TC, tm2, td2, HCq7, hm2, hd2⟩ : SV).Ok Z S := (hq4.al λb hbq7 => hFZ.block b hbq7.2.1 hbq7.2.2).ok λb hbq7 => by have := hFZ.size; have := hbq7.2.1; omega
          have hqt := (HRR.o.2.1.ok λb hbq7 => hbq7).on hEZ
          have HZq7 := ae (And.intro hqZ (And.intro hEZ hqt))
          have u0 := (hEZ.cell htb2 (λh => h)).trans t0
          have u1 := (hEZ.cell htb2 (λh => h)).trans t1
          have u2 := (hEZ.cell htb2 (λh => h)).trans t2
          have u3 := (hEZ.cell htb2 (λh => h)).trans t3
          have tbz : tbq7 < Z.heap.size := Nat.lt_of_lt_of_le htb2 hEZ.size
          obtain ⟨y0q7, y0f, y0l⟩ := hBZ.two
          clear hZq7 hBx hE4 hq4 hFZ hEZ hqZ hBZ hqt t0 t1 t2 t3
          go_upto_region 10 with (fail)
          refine eC (λ_ => False) [(0, 3), (1, 3), (2, 3), (3, 0), (4, 0), (5, 2), (6, 3)] ?_
          iterate 3 refine pf ?_
          iterate 2 refine ph ?_
          refine ax rfl (λK hK => ?_)
          go_simp
          refine (sameE S ⟨HGA, r3, hgc, HTA, tW, htc, HHA, pd, hhc⟩ ⟨SC, cmq7, cdq7, TC, tm2, td2, HCq7, hm2, hd2⟩ Z.drew (HZq7.o.2.2.on (Fr.refl _ Z).drew) (HZq7.o.1.on (Fr.refl _ Z).drew) HRR.o.2.2).mono ?_
          rintro e w6q7 ⟨rfl, hE6⟩
          have H6q7 := ae (HZq7.o.2.1.trans (Fr.aF hE6))
          refine dP hK ?_
          clear hK K
          clear hE6 u0 u1 u2 u3 y0q7 y0f y0l
          refine pf ?_
          refine aC ?_
          go_wp2_with (fail)
          go_roundw
          case rel => first | exact ⟨i + 1, by first | rfl | (simp; done) | go_num, by omega, HEq7.o.trans H6q7.o⟩ | exact ⟨1, by first | rfl | (simp; done) | go_num, by omega, HEq7.o.trans H6q7.o⟩
          case measure => simp [intOf] <;> omega
      · obtain rfl : i = n3 + 1 := by omega
        go_wp2_with (fail)
        refine (awake10 wr).mono ?_
        rintro e w8q7 ⟨rfl, hE8⟩
        go_wp2_with (fail)
        go_ret
        exact ⟨rfl, Fr.ext (((HXq7.o.2.1.trans H4q7.o.2.2.2.1).trans HEq7.o).trans hE8)⟩
end Go.Proofs.YtkhnkojkplbioaaGreat
