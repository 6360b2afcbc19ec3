/- The walks of the law's made and of its sanity check. No condition. -/
import Derived.Test.YtbbjncjkddekfaaTabF
namespace Go.Proofs.Ytbbjncjkddekfaa
open Go.RowKit
attribute [local go_sem ↓] run_max2 run_min2

theorem and_small (x : Int) (m : Nat) (hm : m < 2 ^ 63) : 0 ≤ bits .and .i64 x (m : Int) ∧ bits .and .i64 x (m : Int) ≤ m := by
  have hle : (BitVec.ofInt 64 x &&& BitVec.ofInt 64 (m : Int)).toNat ≤ m := by
    rw [BitVec.toNat_and]
    refine Nat.le_trans Nat.and_le_right ?_
    rw [BitVec.ofInt_natCast, BitVec.toNat_ofNat]
    exact Nat.mod_le _ _
  have e : bits .and .i64 x (m : Int) = ((BitVec.ofInt 64 x &&& BitVec.ofInt 64 (m : Int)).toNat : Int) := by
    show IntKind.i64.wrap ((BitVec.ofInt 64 x &&& BitVec.ofInt 64 (m : Int)).toNat : Int) = _
    rw [IntKind.wrap_i64]
    omega
  rw [e]
  omega
theorem and3 (x : Int) : 0 ≤ bits .and .i64 x 3 ∧ bits .and .i64 x 3 ≤ 3 := and_small x 3 (by decide)

set_option maxHeartbeats 1600000 in
theorem made_any (A B : Option Addr) (n c p cp : Nat) (X : List Mtx) (l : List Int) (w : World) (h : SlR (EF cMtx) 3 w w.heap.size A n X) (hX : MOk X) (ho : SlR (EF cInt) 1 w w.heap.size B p l) :
    Calls Try.prog 26 #[.slice A n c, .slice B p cp] w fun r w' => ∃ T A' c', r = .returned (.slice A' (own X).length c') ∧ (own X).length ≤ c' ∧ SlR (EF cHold) 2 w' w'.heap.size A' (own X).length T ∧ w'.ownsRow w.heap.size 30 2 (.slice A' (own X).length c') (own X).length (T.flatMap cHold) ∧ GoodT X T 4 60 ∧ Below w.heap.size w w' := by
  have hNb := own_length_le hX
  have hz0 := GoodT.zero X 4 0 (by omega) (by omega)
  go_enter Try.func26, Try.ntmps26
  go_wp2_with (fail)
  refine (owners_any A n c X w h hX).mono ?_
  rintro r w1 ⟨A1, c1, rfl, hc1, hr, hb⟩
  clear hr
  generalize hN : (own X).length = N at *
  have HN := hide hN
  clear hN
  have hmk := fun W => run_mk appHold .i64 .i64 N (by omega) (by omega) W
  have hbs := hb.size
  have hown := own_mk (e := 30) (f := cHold) (x := ⟨0, 0⟩) (zc := #[.int .i64 0, .int .i64 0]) (sz := 2) rfl rfl (by omega) N (by omega) (w := w1) (base := w.heap.size) hbs
  have hr0 := own_read hown (fun _ _ => rfl) (by simp)
  go_wp2
  go_loopw [5, 6] (fun v i wr => ∃ (k : Nat) (T : List Hold) (A' : Option Addr) (c' : Nat), k ≤ p ∧ k ≤ 60 ∧ i = .int .i64 k ∧ v = .slice A' N c' ∧ N ≤ c' ∧ SlR (EF cHold) 2 wr wr.heap.size A' N T ∧ wr.ownsRow w.heap.size 30 2 (.slice A' N c') N (T.flatMap cHold) ∧ GoodT X T 4 k ∧ Below w.heap.size w wr) (fun _ i _ => p - (intOf i).toNat)
  case atStart => exact ⟨0, _, _, _, Nat.zero_le _, Nat.zero_le _, rfl, rfl, Nat.le_refl _, hr0, hown, hz0, hb.alloc hbs _⟩
  case round =>
    obtain ⟨k, T, A', c', hk, hk60, rfl, rfl, hNc, hT, hO, hG, hb'⟩ := hrel
    clear hr0 hown
    have hbs' := hb'.size
    by_cases hin : k < p ∧ k < 60 ∧ 0 < N
    · obtain ⟨hkp, hk6, hN0⟩ := hin
      obtain ⟨b, o, x, rfl, hbb, hx, c0⟩ := (ho.keepF hb').int hkp
      clear hx
      have hTk := hG.tok (by omega) (by omega)
      have h' := h.onF hb' hbs'
      have HG := hide hG
      clear hG hmk
      go_wp2_with (fail)
      refine (within_any _ N (by omega) (by omega) _).mono ?_
      rintro r w' ⟨rfl, rfl⟩
      go_wp2_with (fail)
      all_goals
        have h3 := and3 (x / 2)
        generalize bits BinOp.and IntKind.i64 (x / 2) 3 = th at *
      · refine (refUnlock_any A A' n c N c' X T _ th wr h' hX hT hTk (by omega)).mono ?_
        rintro r w2 hres
        obtain ⟨A2, c2, rfl, hN2, hr2, ho2, hb2⟩ := hres.open_ (show _ = N by rw [unlockT_length, hTk.len]; exact HN.out)
        have hbw := hb'.trans (hb2.mono hbs')
        have HG2 := hide (fun e => HG.out.unlock e th)
        go_wp2
        go_roundw
        case rel => exact ⟨k + 1, _, A2, c2, by omega, by omega, by go_num, rfl, hN2, hr2, own_base ho2 hbs', (HG2.out _).mono (by omega) (by omega), hbw⟩
        case measure => simp [intOf]; omega
      · refine (refLock_any A A' n c N c' X T _ th wr h' hX hT hTk (by omega)).mono ?_
        rintro r w2 hres
        obtain ⟨A2, c2, rfl, hN2, hr2, ho2, hb2⟩ := hres.open_ (show _ = N by rw [lockT_length, hTk.len]; exact HN.out)
        have hbw := hb'.trans (hb2.mono hbs')
        have HG2 := hide (fun e => HG.out.lock e th (by omega) (by omega))
        go_wp2
        go_roundw
        case rel => exact ⟨k + 1, _, A2, c2, by omega, by omega, by go_num, rfl, hN2, hr2, own_base ho2 hbs', (HG2.out _).mono (by omega) (by omega), hbw⟩
        case measure => simp [intOf]; omega
      · refine (refUnlock_any A A' n c N c' X T _ th wr h' hX hT hTk (by omega)).mono ?_
        rintro r w2 hres
        obtain ⟨A2, c2, rfl, hN2, hr2, ho2, hb2⟩ := hres.open_ (show _ = N by rw [unlockT_length, hTk.len]; exact HN.out)
        have hbw := hb'.trans (hb2.mono hbs')
        have HG2 := hide (fun e => HG.out.unlock e th)
        go_wp2
        go_roundw
        case rel => exact ⟨k + 1, _, A2, c2, by omega, by omega, by go_num, rfl, hN2, hr2, own_base ho2 hbs', (HG2.out _).mono (by omega) (by omega), hbw⟩
        case measure => simp [intOf]; omega
      · refine (refLock_any A A' n c N c' X T _ th wr h' hX hT hTk (by omega)).mono ?_
        rintro r w2 hres
        obtain ⟨A2, c2, rfl, hN2, hr2, ho2, hb2⟩ := hres.open_ (show _ = N by rw [lockT_length, hTk.len]; exact HN.out)
        have hbw := hb'.trans (hb2.mono hbs')
        have HG2 := hide (fun e => HG.out.lock e th (by omega) (by omega))
        go_wp2
        go_roundw
        case rel => exact ⟨k + 1, _, A2, c2, by omega, by omega, by go_num, rfl, hN2, hr2, own_base ho2 hbs', (HG2.out _).mono (by omega) (by omega), hbw⟩
        case measure => simp [intOf]; omega
    · have fin : ∃ T A2 c2, Ending.returned (.slice A' N c') = .returned (.slice A2 (own X).length c2) ∧ (own X).length ≤ c2 ∧ SlR (EF cHold) 2 wr wr.heap.size A2 (own X).length T ∧ wr.ownsRow w.heap.size 30 2 (.slice A2 (own X).length c2) (own X).length (T.flatMap cHold) ∧ GoodT X T 4 60 ∧ Below w.heap.size w wr := by
        rw [HN.out]
        exact ⟨T, A', c', rfl, hNc, hT, hO, hG.mono (by omega) (by omega), hb'⟩
      have FIN := hide fin
      clear fin hmk
      by_cases h1 : k < p
      case neg =>
        clear hin
        go_wp2
        go_ret
        exact FIN.out
      by_cases h2 : k < 60
      case neg =>
        clear hin
        go_wp2
        go_ret
        exact FIN.out
      obtain rfl : N = 0 := by omega
      clear hin
      go_wp2
      go_ret
      exact FIN.out

/-! ## the sanity check -/
def awX : List Mtx := [⟨⟨#[97]⟩, false, 0⟩, ⟨⟨#[98]⟩, false, 3⟩]
theorem awX_ok : MOk awX := ⟨by decide, fun m hm => by
  simp only [awX, List.mem_cons, List.not_mem_nil, or_false] at hm
  rcases hm with rfl | rfl <;> simp⟩
theorem aw_elems : elems awX = 4 := by decide
theorem aw_own : own awX = [0, 1, 1, 1] := by decide
theorem aw_base : baseOf awX 1 = 1 := by decide
theorem aw_mutex : mutexOf awX 3 = 1 := by unfold mutexOf; rw [aw_own]; decide
def awT : List Hold := lockT awX [⟨0, 0⟩, ⟨0, 0⟩, ⟨0, 0⟩, ⟨0, 0⟩] 2 0
theorem aw_free : free awX [⟨0, 0⟩, ⟨0, 0⟩, ⟨0, 0⟩, ⟨0, 0⟩] 2 0 = true := by unfold free mutexOf; rw [aw_own]; decide
theorem awT_eq : awT = [⟨0, 0⟩, ⟨0, 0⟩, ⟨1, 1⟩, ⟨0, 0⟩] := by unfold awT lockT; rw [aw_free]; decide
theorem aw_free2 : free awX awT 2 0 = false := by unfold free mutexOf; rw [aw_own, awT_eq]; decide
theorem aw_depth : depth awX awT 1 0 = 1 := by unfold depth; rw [aw_own, awT_eq]; simp only [List.length_cons, List.length_nil, depTo]; unfold depAt; rw [aw_own]; decide

set_option maxHeartbeats 1600000 in
theorem awake_any (w : World) : Calls Try.prog 25 #[] w fun r w' => r = .returned (.bool true) ∧ Below w.heap.size w w' := by
  go_enter Try.func25, Try.ntmps25
  go_wp2_with (fail)
  have hlen4 : (own awX).length = 4 := by rw [aw_own]; rfl
  have hb0 : Below w.heap.size w (w.alloc (.cells #[.string ⟨#[97]⟩, .bool false, .int .i64 0, .string ⟨#[98]⟩, .bool false, .int .i64 3] 33)) := (Below.refl _ _).alloc (Nat.le_refl _) _
  have hx : SlR (EF cMtx) 3 (w.alloc (.cells #[.string ⟨#[97]⟩, .bool false, .int .i64 0, .string ⟨#[98]⟩, .bool false, .int .i64 3] 33)) (w.alloc (.cells #[.string ⟨#[97]⟩, .bool false, .int .i64 0, .string ⟨#[98]⟩, .bool false, .int .i64 3] 33)).heap.size (some ⟨w.heap.size, 0, none⟩) 2 awX :=
    own_read (e := 33) (base := 0) (c := 2) (World.ownsRow_lit w _ 2 (Nat.zero_le _) (by decide) rfl) (len_cMtx _) rfl
  generalize w.alloc (.cells #[.string ⟨#[97]⟩, .bool false, .int .i64 0, .string ⟨#[98]⟩, .bool false, .int .i64 3] 33) = w0 at *
  refine (new_any _ 2 2 awX w0 hx awX_ok).mono ?_
  rintro r w1 ⟨A1, c1, rfl, hc1, hT0, hb1⟩
  rw [hlen4] at hT0 hc1 ⊢
  have hT0 : SlR (EF cHold) 2 w1 w1.heap.size A1 4 [⟨0, 0⟩, ⟨0, 0⟩, ⟨0, 0⟩, ⟨0, 0⟩] := hT0
  have hk0 : TOk awX [⟨0, 0⟩, ⟨0, 0⟩, ⟨0, 0⟩, ⟨0, 0⟩] := ⟨by rw [hlen4]; rfl, by decide⟩
  have hk1 : TOk awX awT := ⟨by rw [hlen4, awT_eq]; rfl, by rw [awT_eq]; decide⟩
  have hL4 : awT.length = 4 := by rw [awT_eq]; rfl
  have HL4 := hide hL4
  have HX4 := hide hlen4
  have hw1 := hb0.trans (hb1.mono hb0.size)
  have hx1 := hx.onF hb1 hb1.size
  clear hL4 hlen4 hb1 hb0 hx
  go_wp2_with (fail)
  refine (lock_any _ A1 2 2 4 c1 awX _ 2 0 w1 hx1 awX_ok hT0 hk0 (by decide) (by decide)).mono ?_
  intro r w2 hres
  obtain ⟨A2, c2, rfl, hc2, hT2, _, hb2⟩ := hres.open_ (n := 4) HL4.out
  rw [aw_free]
  have hT2 : SlR (EF cHold) 2 w2 w2.heap.size A2 4 awT := hT2
  have hw2 := hw1.trans (hb2.mono hw1.size)
  have hx2 := hx1.onF hb2 hb2.size
  clear hres hb2 hx1 hw1 hT0
  go_wp2_with (fail)
  refine (lock_any _ A2 2 2 4 c2 awX awT 2 0 w2 hx2 awX_ok hT2 hk1 (by decide) (by decide)).mono ?_
  intro r w3 hres
  obtain ⟨A3, c3, rfl, hc3, hT3, _, hb3⟩ := hres.open_ (n := 4) (by rw [lockT_length]; exact HL4.out)
  rw [aw_free2]
  have hw3 := hw2.trans (hb3.mono hw2.size)
  have hx3 := hx2.onF hb3 hb3.size
  have hT23 := hT2.onF hb3 hb3.size
  clear hres hb3 hx2 hw2 hT2 hT3
  go_wp2_with (fail)
  refine (elements_any _ 2 2 awX w3 hx3 awX_ok).mono ?_
  rintro r w4 ⟨rfl, hb4⟩
  rw [aw_elems]
  have hw4 := hw3.trans (hb4.mono hw3.size)
  have hx4 := hx3.onF hb4 hb4.size
  have hT4 := hT23.onF hb4 hb4.size
  clear hb4 hx3 hw3 hT23
  go_wp2_with (fail)
  refine (base_any _ 2 2 awX 1 w4 hx4 awX_ok (Nat.le_refl _)).mono ?_
  rintro r w5 ⟨rfl, hb5⟩
  rw [aw_base]
  have hw5 := hw4.trans (hb5.mono hw4.size)
  have hx5 := hx4.onF hb5 hb5.size
  have hT5 := hT4.onF hb5 hb5.size
  clear hb5 hx4 hw4 hT4
  go_wp2_with (fail)
  refine (mutexOf_any _ 2 2 awX 3 w5 hx5 awX_ok (by decide)).mono ?_
  rintro r w6 ⟨rfl, hb6⟩
  rw [aw_mutex]
  have hw6 := hw5.trans (hb6.mono hw5.size)
  have hx6 := hx5.onF hb6 hb6.size
  have hT6 := hT5.onF hb6 hb6.size
  clear hb6 hx5 hw5 hT5
  go_wp2_with (fail)
  refine (depth_any _ A2 2 2 4 c2 awX awT 1 0 w6 hx6 awX_ok (Nat.le_refl _) hT6 hk1 hc2).mono ?_
  rintro r w7 ⟨rfl, hb7⟩
  rw [aw_depth]
  have hw7 := hw6.trans (hb7.mono hw6.size)
  go_wp2
  go_ret
  exact ⟨rfl, hw7⟩
end Go.Proofs.Ytbbjncjkddekfaa
