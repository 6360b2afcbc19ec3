/- The law ScheduleFinished, walked. No condition but the fB of slices. -/
import Derived.Test.YtkhnkojkplbioaaGreatESchC
import Derived.Test.YtkhnkojkplbioaaGreatESchT
namespace Go.Proofs.YtkhnkojkplbioaaGreat
open Go.RowKit
set_option maxRecDepth 1000000
set_option linter.unusedVariables false
set_option maxRecDepth 1000000 in
set_option maxHeartbeats 1600000 in
theorem scheduleFinished_any (A B : Option Addr) (n c m d : Nat) (l pkq7 : List Int) (w : World) (h : cp (EF cP) 1 w w.heap.size A n l) (hp : cp (EF cP) 1 w w.heap.size B m pkq7) (hc : n <= c) :
    Calls Tryz.prog 13 #[.slice A n c, .slice B m d] w λe w' => e = .returned (.bool true) /\ Below w.heap.size w w' := by
  have H := ae (And.intro h hp)
  clear h hp
  go_enter Tryz.func13, Tryz.ntmps13
  go_wp2_with (fail)
  refine (Fi A n c l w H.o.1 hc).mono ?_
  rintro e w1q7 ⟨u, b0q7, b1q7, b2q7, b3q7, b4, b5q7, m0q7, m1q7, m2q7, m3q7, m4q7, m5q7, d0, d1, d2, d3, d4, d5, GA, gn, gc, MA, mn, mc, PA, pn, pc, rfl, hU, _, _, _, hrep, hE1⟩
  have hu1 : (⟨GA, gn, gc, MA, mn, mc, PA, pn, pc⟩ : UV).Ok w1q7 u := uvAt hrep λb hbq7 => hbq7.2
  have H1 := ae (And.intro hU (And.intro hu1 hE1))
  clear hU hu1 hE1 hrep
  go_upto_region 2 with (fail)
  generalize hX : World.alloc _ _ = X
  have hEX : Ext w1q7 X := by rw [<- hX]; exact (((Fr.refl _ _).alloc _).alloc _).alloc _
  have hBX : aq X (w1q7.heap.size + 1) 30 #[.slice GA gn gc, .slice MA mn mc, .slice PA pn pc, .int .i64 u.main] := by rw [<- hX]; exact (aq.gC _ _ _ (by simp)).alloc _
  have hEw := H1.o.2.2.trans hEX
  have HXq7 := ae (And.intro (H1.o.2.1.on hEX) (And.intro hEw (H.o.2.c8 hEw.ext hEw.size)))
  obtain ⟨x0q7, x0f, x0l⟩ := hBX.two
  clear hX hEX hBX hEw
  refine eC (λ_ => False) [(0, 0), (1, 3), (2, 1), (3, 2), (4, 3)] ?_
  refine ph ?_
  refine pf ?_
  refine aG rfl (λK hK => ?_)
  go_simp
  refine (sc B m d 60 pkq7 X.drew (HXq7.o.2.2.c8 (Fr.refl (λ_ => False) X).drew.ext (Nat.le_refl _)) (by omega)).mono ?_
  rintro r w3q7 ⟨A3q7, c3, rfl, hc3, hl3, hb3⟩
  have hlen3 := picksL_len pkq7 60
  generalize cr pkq7 60 = L at *
  generalize hn3 : L.length = n3 at *
  have hE3 : Ext X w3q7 := Fr.aF (belowE hb3)
  have H3q7 := ae (And.intro (show cp (EF cP) 1 w3q7 w3q7.heap.size A3q7 n3 L from hl3) (And.intro hE3 hn3))
  refine dq hK (belowE hb3) ?_
  clear hK K
  clear hl3 hb3 hn3 hE3
  refine ax rfl (λK hK => ?_)
  go_simp
  refine (strace u L A3q7 n3 c3 w3q7 ⟨GA, gn, gc, MA, mn, mc, PA, pn, pc⟩ H1.o.1 (HXq7.o.1.on H3q7.o.2.1) H3q7.o.1 (by omega)).mono ?_
  rintro e w4q7 ⟨QA, qnq7, qc, rfl, hqn, hqc, hql, hE4⟩
  obtain rfl : n3 + 1 = qnq7 := by rw [<- hqn, trace_len, H3q7.o.2.2]
  have H4q7 := ae (And.intro hql (H3q7.o.2.1.trans hE4))
  refine dP hK ?_
  clear hK K
  clear hql hE4 hqn x0q7 x0f x0l
  refine pf ?_
  refine aC ?_
  go_wp2_with (fail)
  go_loopw [9] (λivq7 wr => ∃ j : Nat, ivq7 = .int .i64 ((j + 1 : Nat) : Int) /\ j <= n3 /\ Ext w4q7 wr) (λivq7 _ => n3 + 1 - (intOf ivq7).toNat)
  case atStart => exact ⟨0, rfl, by omega, Fr.refl _ _⟩
  case round =>
    obtain ⟨j, rfl, hjq7, hEq7⟩ := hrel
    have HEq7 := ae hEq7
    by_cases hlt : j < n3
    · obtain ⟨tbq7, to, S, GSq7, gs1, gs2, TS, ts1, ts2, HSq7, hs1, hs2, rfl, htb, hS, hSq, a0, a1q7, a2q7, a3⟩ := (H4q7.o.1.on (Fr.ext hEq7)).stAt (k := j) (by omega)
      obtain ⟨tb', to', T, GT, gt1, gt2, TT, Lj, tt2, HTq7, ht1, ht2, heq, htb', hT, hTq, c0, c1, c2, c3⟩ := (H4q7.o.1.on (Fr.ext hEq7)).stAt (k := j + 1) (by omega)
      injection heq with heq
      injection heq with e1 e2
      subst e1 e2
      obtain ⟨t, ht⟩ : ∃ t, L[j]? = some t := ⟨_, List.getElem?_eq_getElem (by have := H3q7.o.2.2; omega)⟩
      rw [trace_at L (dG u) j (by have := H3q7.o.2.2; omega)] at hS
      rw [trace_at L (dG u) (j + 1) (by have := H3q7.o.2.2; omega), trace_step ht] at hT
      injection hS with hS
      injection hT with hT
      rw [hS] at hT
      have hle : hs1 <= ht1 := by
        have h1q7 := hSq.at_.h.1
        have h2q7 := hTq.at_.h.1
        have h3q7 := step_len (u := u) S t
        rw [hT] at h3q7
        simp only [List.length_map] at h1q7 h2q7
        omega
      have hhs : hs1 <= 32 := by
        have h := (run_state H1.o.1 (l := L.take j) (m := 60) (by rw [List.length_take]; have := H3q7.o.2.2; omega)).xl.2
        rw [hS] at h
        have h1q7 := hSq.at_.h.1
        simp only [List.length_map] at h1q7
        omega
      have hdone : ∀ k : Nat, S.threads[k]? = some [] -> T.threads[k]? = some [] := λk h => by rw [<- hT]; exact step_done S t h
      have HDq7 := ae (And.intro hSq (And.intro hTq (And.intro hdone (And.intro (show tbq7 < wr.heap.size from htb) (And.intro a2q7 c2)))))
      have htb2 : tbq7 < wr.heap.size := htb
      have hnl : ¬ ht1 < hs1 := by omega
      have hq1 : (j : Int) < (n3 : Int) + 1 := by omega
      have hq2 : (j : Int) + 1 < (n3 : Int) + 1 := by omega
      have hq3 : (0 : Int) <= (j : Int) + 1 := by omega
      have hq4 : IntKind.i64.wrap (j : Int) = (j : Int) := IntWalk.i64_in _ (by omega)
      clear hEq7 htb htb' hS hT hSq hTq hdone ht
      go_upto_region 6 with (fail)
      refine eC (λ_ => False) [(0, 3), (1, 3), (2, 3), (3, 3), (4, 0), (5, 3), (6, 3), (7, 3), (8, 3), (9, 3), (10, 3), (11, 0), (12, 3), (13, 3)] ?_
      iterate 4 refine pf ?_
      refine ph ?_
      iterate 6 refine pf ?_
      refine ph ?_
      iterate 2 refine pf ?_
      refine aC ?_
      clear a0 a1q7 a2q7 a3 c0 c1 c2 c3 htb2
      go_wp2_with (fail)
      go_loopw [10] (λkvq7 wr2 => ∃ k : Nat, kvq7 = .int .i64 k /\ k <= hs1 /\ Ext wr wr2) (λkvq7 _ => hs1 - (intOf kvq7).toNat)
      case atStart => exact ⟨0, rfl, by omega, (Fr.refl _ _).drew⟩
      case round =>
        obtain ⟨k, rfl, hkq7, hE2⟩ := hrel
        have HE2 := ae hE2
        have a2q7 := (hE2.cell HDq7.o.2.2.2.1 (λh => h)).trans HDq7.o.2.2.2.2.1
        have c2 := (hE2.cell HDq7.o.2.2.2.1 (λh => h)).trans HDq7.o.2.2.2.2.2
        have htb2 : tbq7 < wr.heap.size := Nat.lt_of_lt_of_le HDq7.o.2.2.2.1 hE2.size
        have hsz := hE2.size
        by_cases hkl : k < hs1
        · obtain ⟨fbq7, foq7, ftq7, FA, x, ic, rfl, hfb, hqf, f0, hic, hft⟩ := (HDq7.o.1.Ho (λb hbq7 => hbq7) hE2).at_.h.kp (k := k) hkl
          obtain ⟨gbq7, go, gt, JAq7, y, jcq7, rfl, hgb, hqg, g0q7, hjc, hgt⟩ := (HDq7.o.2.1.Ho (λb hbq7 => hbq7) hE2).at_.h.kp (k := k) (by show k < ht1; omega)
          have hx : ftq7.length = x := by have := hft.1; simpa using this
          have hyq7 : gt.length = y := by have := hgt.1; simpa using this
          have hxy : x = 0 -> y = 0 := λh => by
            rw [h] at hx
            rw [List.eq_nil_of_length_eq_zero hx] at hqf
            rw [HDq7.o.2.2.1 k hqf] at hqg
            injection hqg with hqg
            rw [<- hyq7, <- hqg]; rfl
          have hfb2 : fbq7 < wr.heap.size := Nat.lt_of_lt_of_le hfb hsz
          have hgb2 : gbq7 < wr.heap.size := Nat.lt_of_lt_of_le hgb hsz
          have hkt : k < ht1 := by omega
          clear hE2 hsz hfb hgb hqf hqg hft hgt hx hyq7 hic hjc
          by_cases hx0 : x = 0
          · have hy0 := hxy hx0
            subst hx0 hy0
            clear hxy
            go_wp2_with (fail)
            go_roundw
            case rel => exact ⟨k + 1, by go_num, by omega, HE2.o⟩
            case measure => simp [intOf]; omega
          · have q0q7 : ((x : Int) == 0) = false := by simp; omega
            clear hxy
            go_wp2_with (fail)
            go_roundw
            case rel => exact ⟨k + 1, by go_num, by omega, HE2.o⟩
            case measure => simp [intOf]; omega
        · clear hE2 hsz
          go_wp2_with (fail)
          go_roundw
          case rel => exact ⟨j + 1, by go_num, by omega, HEq7.o.trans HE2.o⟩
          case measure => simp [intOf]; omega
    · obtain rfl : j = n3 := by omega
      go_wp2_with (fail)
      refine (awake10 wr).mono ?_
      rintro e w8q7 ⟨rfl, hE8⟩
      go_wp2_with (fail)
      go_ret
      exact ⟨rfl, Fr.ext (((HXq7.o.2.1.trans H4q7.o.2).trans HEq7.o).trans hE8)⟩
end Go.Proofs.YtkhnkojkplbioaaGreat
