/- The walks of the program's Depth and of Valid, on both sides. For mutexes and tables as P8.1 to P8.4 have them; Valid for all tables. -/
import Derived.Test.YtbbjncjkddekfaaTabD
namespace Go.Proofs.Ytbbjncjkddekfaa
open Go.RowKit
attribute [local go_sem ↓] run_max2 run_min2

set_option maxHeartbeats 800000 in
theorem depth_any (A A2 : Option Addr) (n c n2 c2 : Nat) (X : List Mtx) (T : List Hold) (m th : Int) (w : World) (h : SlR (EF cMtx) 3 w w.heap.size A n X) (hX : MOk X) (hnc : n ≤ c)
    (ht : SlR (EF cHold) 2 w w.heap.size A2 n2 T) (hT : TOk X T) (hnc2 : n2 ≤ c2) :
    Calls Try.prog 27 #[.slice A n c, .slice A2 n2 c2, .int .i64 m, .int .i64 th] w fun r w' => r = .returned (.int .i64 (depth X T m th)) ∧ Below w.heap.size w w' := by
  have hl := h.1
  have hl2 := ht.1
  have hN := hT.len
  have hNb := own_length_le hX
  have hoe := own_length X
  go_enter Try.func27, Try.ntmps27
  go_wp2_with (fail)
  refine (base_any A n c X m w h hX hnc).mono ?_
  rintro r w1 ⟨rfl, hb⟩
  by_cases hm : m < 0 ∨ (X.length : Int) ≤ m
  · have HD := hide (show depth X T m th = 0 from depth_out hm)
    have hbo : baseOf X m < 0 := by rw [baseOf_out hm]; omega
    clear hm hl hl2 hN hoe
    go_wp2
    go_ret
    exact ⟨ret_int (by rw [HD.out]), hb⟩
  obtain ⟨k, rfl⟩ := Int.eq_ofNat_of_zero_le (show 0 ≤ m by omega)
  have hk : k < X.length := by omega
  have hm1 : X[k]? = some (X[k]'hk) := List.getElem?_eq_getElem _
  have hbx := (hX.boundTo k)
  obtain ⟨Bn, hBn⟩ := Int.eq_ofNat_of_zero_le hbx.1
  rw [baseOf_in hk, hBn]
  by_cases h0 : 0 ≤ th
  case neg =>
    have HD := hide (show depth X T k th = 0 from depth_neg (by omega))
    have h0' : th < 0 := by omega
    clear hm hl hl2 hN hoe hm1 hBn h0
    go_wp2
    go_ret
    exact ⟨ret_int (by rw [HD.out]), hb⟩
  have hkn : k < n := by omega
  obtain ⟨b, o, mx, rfl, hbb, hx, c0, c1, c2'⟩ := (h.keepF hb).mtx hkn
  have hlt := elems_take_lt X hx hk
  rw [List.take_length] at hlt
  have hmb := hX.at_ hx
  have hnum : mx.num = max mx.size 1 := rfl
  have hnN := mx.numN_eq
  have HD := hide (depth_stretch (T := T) th hx)
  have HX := hide hx
  have HB := hide (depTo_before (T := T) th hk)
  have e1 : min ((Bn : Int) + max mx.size 1) (n2 : Int) = ((Bn + mx.numN : Nat) : Int) := by omega
  have e2 : min (Bn : Int) ((Bn : Int) + (mx.numN : Int)) = Bn := by omega
  have hle : Bn + mx.numN ≤ n2 := by omega
  have hn2b : n2 ≤ 4096 := by omega
  have hnp : 0 < mx.numN := by have := mx.num_pos; omega
  clear hlt hm hl hl2 hN hoe hm1 hx hnN hnum hbx
  have HBn := hide hBn
  clear hBn
  generalize hE : mx.numN = E at *
  obtain ⟨b2, o2, rfl, hbb2⟩ := (ht.keepF hb).some_ (show 0 < n2 by omega)
  have HE := hide hE
  clear hE
  have hbs := hb.size
  go_wp2
  go_loopw [10, 41] (fun s i wr => ∃ j : Nat, j ≤ E ∧ i = .int .i64 j ∧ s = .int .i64 (depTo X T k th (Bn + j)) ∧ Below w.heap.size w wr) (fun _ i _ => E - (intOf i).toNat)
  case atStart =>
    refine ⟨0, Nat.zero_le _, rfl, int_of ?_, hb.alloc hbs _⟩
    have h1 := HB.out
    rw [HBn.out, Int.toNat_natCast] at h1
    exact h1.symm
  case round =>
    obtain ⟨j, hj, rfl, rfl, hb'⟩ := hrel
    by_cases hlt : j < E
    · obtain ⟨b3, o3, hd, hA3, hbb3, hx3, d0, d1⟩ := (ht.keepF hb').hold (show Bn + j < n2 by omega)
      injection hA3 with hA3
      injection hA3 with hA3 hA4
      subst hA3 hA4
      rw [Nat.add_mul, ← Nat.add_assoc] at d0 d1
      have hbd := hT.bound hd (List.mem_of_getElem? hx3)
      have hbt := depTo_bound hT k th (Bn + j)
      have hAk : hAt T ((Bn + j : Nat) : Int) = hd := by unfold hAt; rw [Int.toNat_natCast, hx3]; rfl
      have hkl : k < X.length := hk
      have hown : (own X)[Bn + j]? = some (k : Int) := own_at (List.getElem?_eq_getElem hkl) (by rw [HBn.out]; omega) (by
        rw [HBn.out]
        have h1 := (X[k]'hkl).numN_eq
        have h2 : (X[k]'hkl).numN = E := by
          have h3 := HX.out
          rw [List.getElem?_eq_getElem hkl] at h3
          injection h3 with h3
          rw [h3]; exact HE.out
        omega)
      have hs0 : depTo X T k th (Bn + (j + 1)) = depTo X T k th (Bn + j) + (if hd.owner = th + 1 then hd.depth else 0) := by
        rw [show Bn + (j + 1) = (Bn + j) + 1 from rfl]
        simp only [depTo]
        unfold depAt
        rw [hAk, hown]
        simp [h0]
      have HS := hide hs0
      have hbs' := hb'.size
      clear hx3 hAk hown hs0
      by_cases e3 : hd.owner = th + 1
      · have e3' : (hd.owner - 1 == th) = true := by simp; omega
        have HS1 := hide (show depTo X T k th (Bn + (j + 1)) = depTo X T k th (Bn + j) + hd.depth by rw [HS.out, if_pos e3])
        clear e3
        go_wp2
        go_roundw
        case rel => exact ⟨j + 1, by omega, by go_num, by rw [HS1.out], hb'.alloc hbs' _⟩
        case measure => simp [intOf]; omega
      · have e3' : (hd.owner - 1 == th) = false := by simp; omega
        have HS1 := hide (show depTo X T k th (Bn + (j + 1)) = depTo X T k th (Bn + j) by rw [HS.out, if_neg e3, Int.add_zero])
        clear e3
        go_wp2
        go_roundw
        case rel => exact ⟨j + 1, by omega, by go_num, by rw [HS1.out], hb'.alloc hbs' _⟩
        case measure => simp [intOf]; omega
    · obtain rfl : j = E := by omega
      go_wp2
      go_ret
      refine ⟨ret_int ?_, hb'⟩
      have h1 := HD.out
      rw [HBn.out, Int.toNat_natCast] at h1
      rw [h1]

/-! ## Valid -/
/-- P8.4 for one element -/
def okHold (X : List Mtx) (threads : Int) (i : Nat) (h : Hold) : Bool :=
  !(decide (h.owner < 0) || decide (threads < h.owner) || ((h.owner == 0) != (h.depth == 0)) || decide (h.depth < 0) || (decide (1 < h.depth) && !reOf X (mutexOf X i)))
/-- P8.4 -/
def validT (X : List Mtx) (T : List Hold) (threads : Int) : Bool := decide (T.length = (own X).length) && (List.range T.length).all fun i => okHold X threads i (hAt T i)
theorem validT_len {X : List Mtx} {T : List Hold} {threads : Int} (h : T.length ≠ (own X).length) : validT X T threads = false := by
  unfold validT; rw [decide_eq_false h]; rfl
theorem validT_bad {X : List Mtx} {T : List Hold} {threads : Int} {k : Nat} {hd : Hold} (hx : T[k]? = some hd) (h : okHold X threads k hd = false) : validT X T threads = false := by
  unfold validT
  have hk := (List.getElem?_eq_some_iff.1 hx).1
  have hA : hAt T (k : Int) = hd := by unfold hAt; rw [Int.toNat_natCast, hx]; rfl
  rw [Bool.and_eq_false_iff]
  right
  rw [List.all_eq_false]
  exact ⟨k, List.mem_range.2 hk, by rw [hA, h]; simp⟩
theorem validT_good {X : List Mtx} {T : List Hold} {threads : Int} (hl : T.length = (own X).length) (h : ∀ k hd, T[k]? = some hd → okHold X threads k hd = true) : validT X T threads = true := by
  unfold validT
  rw [decide_eq_true hl, Bool.true_and, List.all_eq_true]
  intro k hk
  have hk := List.mem_range.1 hk
  refine h k _ ?_
  unfold hAt
  rw [Int.toNat_natCast, List.getElem?_eq_getElem hk]; rfl

set_option maxHeartbeats 1600000 in
theorem valid_any (A A2 : Option Addr) (n c n2 c2 : Nat) (X : List Mtx) (T : List Hold) (th : Int) (w : World) (h : SlR (EF cMtx) 3 w w.heap.size A n X) (hX : MOk X)
    (ht : SlR (EF cHold) 2 w w.heap.size A2 n2 T) :
    Calls Try.prog 36 #[.slice A n c, .slice A2 n2 c2, .int .i64 th] w fun r w' => r = .returned (.bool (validT X T th)) ∧ Below w.heap.size w w' := by
  have hl := h.1
  have hl2 := ht.1
  have hNb := own_length_le hX
  have hoe := own_length X
  go_enter Try.func36, Try.ntmps36
  go_wp2_with (fail)
  refine (elements_any A n c X w h hX).mono ?_
  rintro r w1 ⟨rfl, hb⟩
  rw [← hoe]
  generalize hN : (own X).length = N at *
  by_cases hne : n2 = N
  case neg =>
    have HR := hide (show validT X T th = false from validT_len (by omega))
    have hne' : (n2 != N) = true := by simpa using hne
    have hne'' : ((n2 : Int) != (N : Int)) = true := by simp; omega
    clear hl hl2 hN hoe hne
    go_wp2
    go_ret
    exact ⟨ret_bool (by rw [HR.out]), hb⟩
  subst hne
  have HL := hide (show T.length = (own X).length by omega)
  have HOE := hide hoe
  have HL2 := hide hl2
  have HL1 := hide hl
  clear hl hl2 hN hoe
  have hnn : ((n2 : Int) != (n2 : Int)) = false := by simp
  go_wp2
  go_loopw [16] (fun i wr => ∃ k : Nat, k ≤ n2 ∧ i = .int .i64 k ∧ (∀ j hd, j < k → T[j]? = some hd → okHold X th j hd = true) ∧ Below w.heap.size w wr) (fun i _ => n2 - (intOf i).toNat)
  case atStart => exact ⟨0, Nat.zero_le _, rfl, fun j hd hj => absurd hj (by omega), hb⟩
  case round =>
    obtain ⟨k, hk, rfl, hno, hb'⟩ := hrel
    have HNO := hide hno
    clear hno
    by_cases hlt : k < n2
    · obtain ⟨b, o, hd, rfl, hbb, hx, c0, c1⟩ := (ht.keepF hb').hold hlt
      have hbs := hb'.size
      have HX := hide hx
      have HBad : Hid (okHold X th k hd = false → validT X T th = false) := hide fun h1 => validT_bad HX.out h1
      clear hx
      by_cases e1 : hd.owner < 0
      · have HR := hide (HBad.out (by unfold okHold; simp [e1]))
        go_wp2
        go_ret
        exact ⟨ret_bool (by rw [HR.out]), hb'.alloc hbs _⟩
      by_cases e2 : th < hd.owner
      · have HR := hide (HBad.out (by unfold okHold; simp [e2]))
        go_wp2
        go_ret
        exact ⟨ret_bool (by rw [HR.out]), hb'.alloc hbs _⟩
      by_cases f1 : hd.owner = 0
      · have g1 : (hd.owner == 0) = true := by simpa using f1
        by_cases f2 : hd.depth = 0
        · have g2 : (hd.depth == 0) = true := by simpa using f2
          have HOK := hide (show okHold X th k hd = true by unfold okHold; rw [g1, g2]; simp; omega)
          have f3 : ¬ hd.depth < 0 := by omega
          have f4 : ¬ 1 < hd.depth := by omega
          clear f1 f2
          go_wp2
          go_roundw
          case rel =>
            refine ⟨k + 1, by omega, by go_num, fun j hd' hj hx' => ?_, hb'.alloc hbs _⟩
            by_cases hjk : j < k
            · exact HNO.out j hd' hjk hx'
            · obtain rfl : j = k := by omega
              rw [HX.out] at hx'
              injection hx' with hx'
              rw [← hx']; exact HOK.out
          case measure => simp [intOf]; omega
        · have g2 : (hd.depth == 0) = false := by simpa using f2
          have HR := hide (HBad.out (by unfold okHold; rw [g1, g2]; simp))
          clear f1 f2
          go_wp2
          go_ret
          exact ⟨ret_bool (by rw [HR.out]), hb'.alloc hbs _⟩
      have g1 : (hd.owner == 0) = false := by simpa using f1
      by_cases f2 : hd.depth = 0
      · have g2 : (hd.depth == 0) = true := by simpa using f2
        have HR := hide (HBad.out (by unfold okHold; rw [g1, g2]; simp))
        clear f1 f2
        go_wp2
        go_ret
        exact ⟨ret_bool (by rw [HR.out]), hb'.alloc hbs _⟩
      have g2 : (hd.depth == 0) = false := by simpa using f2
      by_cases e4 : hd.depth < 0
      · have HR := hide (HBad.out (by unfold okHold; simp [e4]))
        go_wp2
        go_ret
        exact ⟨ret_bool (by rw [HR.out]), hb'.alloc hbs _⟩
      by_cases e5 : 1 < hd.depth
      case neg =>
        have HOK := hide (show okHold X th k hd = true by unfold okHold; rw [g1, g2]; simp [e1, e2, e4, e5])
        go_wp2
        go_roundw
        case rel =>
          refine ⟨k + 1, by omega, by go_num, fun j hd' hj hx' => ?_, hb'.alloc hbs _⟩
          by_cases hjk : j < k
          · exact HNO.out j hd' hjk hx'
          · obtain rfl : j = k := by omega
            rw [HX.out] at hx'
            injection hx' with hx'
            rw [← hx']; exact HOK.out
        case measure => simp [intOf]; omega
      have hm0 : 0 ≤ mutexOf X (k : Int) := mutexOf_in (by omega) (by have := HOE.out; omega)
      obtain ⟨i, mm, hi, hmm, _⟩ := mutexOf_find hm0
      have hin : i < n := by have := (List.getElem?_eq_some_iff.1 hmm).1; have := HL1.out; omega
      have hre : reOf X (mutexOf X (k : Int)) = mm.re := by rw [hi]; unfold reOf; rw [Int.toNat_natCast, hmm]; rfl
      have HRE := hide hre
      have HI := hide hi
      have HMM := hide hmm
      clear hre hi hmm hm0
      go_wp2_with (fail)
      have hba := hb'.alloc hbs (.cells #[.int .i64 hd.owner, .int .i64 hd.depth] 30)
      refine (mutexOf_any A n c X k _ (h.onF hba hba.size) hX (by omega)).mono ?_
      rintro r w2 ⟨rfl, hb2⟩
      have hb3 := hba.trans (hb2.mono hba.size)
      obtain ⟨b', o', mm', rfl, hbb', hx', d0, d1, d2⟩ := (h.keepF hb3).mtx hin
      obtain rfl : mm = mm' := by have := HMM.out; rw [hx'] at this; injection this with this; exact this.symm
      clear hx'
      rw [HI.out]
      cases hr : mm.re with
      | false =>
        have HR := hide (HBad.out (by unfold okHold; rw [HRE.out, hr]; simp [e5]))
        rw [hr] at d1
        clear hr
        go_wp2
        go_ret
        exact ⟨ret_bool (by rw [HR.out]), hb3⟩
      | true =>
        have HOK := hide (show okHold X th k hd = true by unfold okHold; rw [HRE.out, hr, g1, g2]; simp [e1, e2, e4])
        rw [hr] at d1
        clear hr
        go_wp2
        go_roundw
        case rel =>
          refine ⟨k + 1, by omega, by go_num, fun j hd' hj hx' => ?_, hb3⟩
          by_cases hjk : j < k
          · exact HNO.out j hd' hjk hx'
          · obtain rfl : j = k := by omega
            rw [HX.out] at hx'
            injection hx' with hx'
            rw [← hx']; exact HOK.out
        case measure => simp [intOf]; omega
    · obtain rfl : k = n2 := by omega
      have HR := hide (show validT X T th = true from validT_good HL.out fun j hd hx => HNO.out j hd (by have := (List.getElem?_eq_some_iff.1 hx).1; have := HL2.out; omega) hx)
      go_wp2
      go_ret
      exact ⟨ret_bool (by rw [HR.out]), hb'⟩

set_option maxHeartbeats 1600000 in
theorem refValid_any (A A2 : Option Addr) (n c n2 c2 : Nat) (X : List Mtx) (T : List Hold) (th : Int) (w : World) (h : SlR (EF cMtx) 3 w w.heap.size A n X) (hX : MOk X)
    (ht : SlR (EF cHold) 2 w w.heap.size A2 n2 T) :
    Calls Try.prog 37 #[.slice A n c, .slice A2 n2 c2, .int .i64 th] w fun r w' => r = .returned (.bool (validT X T th)) ∧ Below w.heap.size w w' := by
  have hl := h.1
  have hl2 := ht.1
  have hNb := own_length_le hX
  have hoe := own_length X
  go_enter Try.func37, Try.ntmps37
  go_wp2_with (fail)
  refine (owners_any A n c X w h hX).mono ?_
  rintro r w1 ⟨A1, c1, rfl, hc1, hr, hb⟩
  generalize hN : (own X).length = N at *
  by_cases hne : n2 = N
  case neg =>
    have HR := hide (show validT X T th = false from validT_len (by omega))
    have hne' : (N != n2) = true := by simp; omega
    have hne'' : ((N : Int) != (n2 : Int)) = true := by simp; omega
    clear hl hl2 hN hoe hne
    go_wp2
    go_ret
    exact ⟨ret_bool (by rw [HR.out]), hb⟩
  subst hne
  have HL := hide (show T.length = (own X).length by omega)
  have HOE := hide hoe
  have HL2 := hide hl2
  have HL1 := hide hl
  clear hl hl2 hN hoe
  have hnn : ((n2 : Int) != (n2 : Int)) = false := by simp
  go_wp2
  go_loopw [8] (fun i wr => ∃ k : Nat, k ≤ n2 ∧ i = .int .i64 k ∧ (∀ j hd, j < k → T[j]? = some hd → okHold X th j hd = true) ∧ Below w.heap.size w wr ∧ Below w1.heap.size w1 wr) (fun i _ => n2 - (intOf i).toNat)
  case atStart => exact ⟨0, Nat.zero_le _, rfl, fun j hd hj => absurd hj (by omega), hb, Below.refl _ _⟩
  case round =>
    obtain ⟨k, hk, rfl, hno, hb', hbo⟩ := hrel
    have HNO := hide hno
    clear hno
    by_cases hlt : k < n2
    · obtain ⟨b, o, hd, rfl, hbb, hx, c0, c1⟩ := (ht.keepF hb').hold hlt
      have hbs := hb'.size
      have hbos := hbo.size
      have HX := hide hx
      have HBad : Hid (okHold X th k hd = false → validT X T th = false) := hide fun h1 => validT_bad HX.out h1
      clear hx
      by_cases e1 : hd.owner < 0
      · have HR := hide (HBad.out (by unfold okHold; simp [e1]))
        go_wp2
        go_ret
        exact ⟨ret_bool (by rw [HR.out]), hb'.alloc hbs _⟩
      by_cases e2 : th < hd.owner
      · have HR := hide (HBad.out (by unfold okHold; simp [e2]))
        go_wp2
        go_ret
        exact ⟨ret_bool (by rw [HR.out]), hb'.alloc hbs _⟩
      by_cases f1 : hd.owner = 0
      · have g1 : (hd.owner == 0) = true := by simpa using f1
        by_cases f2 : hd.depth = 0
        · have g2 : (hd.depth == 0) = true := by simpa using f2
          have HOK := hide (show okHold X th k hd = true by unfold okHold; rw [g1, g2]; simp; omega)
          have f3 : ¬ hd.depth < 0 := by omega
          have f4 : ¬ 1 < hd.depth := by omega
          clear f1 f2
          go_wp2
          go_roundw
          case rel =>
            refine ⟨k + 1, by omega, by go_num, fun j hd' hj hx' => ?_, hb'.alloc hbs _, hbo.alloc hbos _⟩
            by_cases hjk : j < k
            · exact HNO.out j hd' hjk hx'
            · obtain rfl : j = k := by omega
              rw [HX.out] at hx'
              injection hx' with hx'
              rw [← hx']; exact HOK.out
          case measure => simp [intOf]; omega
        · have g2 : (hd.depth == 0) = false := by simpa using f2
          have HR := hide (HBad.out (by unfold okHold; rw [g1, g2]; simp))
          clear f1 f2
          go_wp2
          go_ret
          exact ⟨ret_bool (by rw [HR.out]), hb'.alloc hbs _⟩
      have g1 : (hd.owner == 0) = false := by simpa using f1
      by_cases f2 : hd.depth = 0
      · have g2 : (hd.depth == 0) = true := by simpa using f2
        have HR := hide (HBad.out (by unfold okHold; rw [g1, g2]; simp))
        clear f1 f2
        go_wp2
        go_ret
        exact ⟨ret_bool (by rw [HR.out]), hb'.alloc hbs _⟩
      have g2 : (hd.depth == 0) = false := by simpa using f2
      by_cases e4 : hd.depth < 0
      · have HR := hide (HBad.out (by unfold okHold; simp [e4]))
        go_wp2
        go_ret
        exact ⟨ret_bool (by rw [HR.out]), hb'.alloc hbs _⟩
      by_cases e5 : 1 < hd.depth
      case neg =>
        have HOK := hide (show okHold X th k hd = true by unfold okHold; rw [g1, g2]; simp [e1, e2, e4, e5])
        go_wp2
        go_roundw
        case rel =>
          refine ⟨k + 1, by omega, by go_num, fun j hd' hj hx' => ?_, hb'.alloc hbs _, hbo.alloc hbos _⟩
          by_cases hjk : j < k
          · exact HNO.out j hd' hjk hx'
          · obtain rfl : j = k := by omega
            rw [HX.out] at hx'
            injection hx' with hx'
            rw [← hx']; exact HOK.out
        case measure => simp [intOf]; omega
      have hm0 : 0 ≤ mutexOf X (k : Int) := mutexOf_in (by omega) (by have := HOE.out; omega)
      obtain ⟨i, mm, hi, hmm, _⟩ := mutexOf_find hm0
      have hin : i < n := by have := (List.getElem?_eq_some_iff.1 hmm).1; have := HL1.out; omega
      have hre : reOf X (mutexOf X (k : Int)) = mm.re := by rw [hi]; unfold reOf; rw [Int.toNat_natCast, hmm]; rfl
      have HRE := hide hre
      have HI := hide hi
      have HMM := hide hmm
      clear hre hi hmm hm0
      obtain ⟨b2, o2, x, rfl, hbb2, hxo, c4⟩ := (hr.keepF hbo).int hlt
      obtain rfl : x = (i : Int) := by
        have h1 := HI.out
        unfold mutexOf at h1
        rw [if_neg (by omega), Int.toNat_natCast, hxo] at h1
        exact h1
      obtain ⟨b', o', mm', rfl, hbb', hx', d0, d1, d2⟩ := (h.keepF hb').mtx hin
      obtain rfl : mm = mm' := by have := HMM.out; rw [hx'] at this; injection this with this; exact this.symm
      clear hx' hxo
      have hq2 : b2 < wr.heap.size := by omega
      have hq3 : b' < wr.heap.size := by omega
      cases hre : mm.re with
      | false =>
        have HR := hide (HBad.out (by unfold okHold; rw [HRE.out, hre]; simp [e5]))
        rw [hre] at d1
        clear hre
        go_wp2
        go_ret
        exact ⟨ret_bool (by rw [HR.out]), hb'.alloc hbs _⟩
      | true =>
        have HOK := hide (show okHold X th k hd = true by unfold okHold; rw [HRE.out, hre, g1, g2]; simp [e1, e2, e4])
        rw [hre] at d1
        clear hre
        go_wp2
        go_roundw
        case rel =>
          refine ⟨k + 1, by omega, by go_num, fun j hd' hj hx' => ?_, hb'.alloc hbs _, hbo.alloc hbos _⟩
          by_cases hjk : j < k
          · exact HNO.out j hd' hjk hx'
          · obtain rfl : j = k := by omega
            rw [HX.out] at hx'
            injection hx' with hx'
            rw [← hx']; exact HOK.out
        case measure => simp [intOf]; omega
    · obtain rfl : k = n2 := by omega
      have HR := hide (show validT X T th = true from validT_good HL.out fun j hd hx => HNO.out j hd (by have := (List.getElem?_eq_some_iff.1 hx).1; have := HL2.out; omega) hx)
      go_wp2
      go_ret
      exact ⟨ret_bool (by rw [HR.out]), hb'⟩
end Go.Proofs.Ytbbjncjkddekfaa
