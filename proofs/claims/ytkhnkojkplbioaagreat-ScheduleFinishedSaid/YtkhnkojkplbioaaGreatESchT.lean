/- Schedules, the program's side: Trace. Conditions: a well-formed unit. -/
import Derived.Test.YtkhnkojkplbioaaGreatESchB
import Derived.Test.YtkhnkojkplbioaaGreatQ04
namespace Go.Proofs.YtkhnkojkplbioaaGreat
open Go.RowKit
set_option maxRecDepth 1000000
set_option linter.unusedVariables false
theorem appSt : cj Tryz.prog 84 40 (.agg #[.slice none 0 0, .slice none 0 0, .slice none 0 0, .int .i64 0]) 4 80 := cj.mk' Tryz.underlying84 (by kernel_rfl) rfl (by omega)
def encZ (s : ai) : D := .st [.sl (s.globals.map D.i), .sl (s.table.map lD), .sl (s.threads.map jW), .i s.fault]
theorem encZ_iff {w : World} {P : Nat -> Prop} {s : ai} {cs : List Value} : (encZ s).rep w P cs ↔ ∃ GA gn gc TA tn tc HA hn hc, cs = [.slice GA gn gc, .slice TA tn tc, .slice HA hn hc, .int .i64 s.fault] /\ gn <= gc /\ tn <= tc /\ hn <= hc /\ lS w P s GA gn TA tn HA hn := by
  unfold encZ
  rw [bM]
  constructor
  · intro h
    obtain ⟨A, n, c, y, rfl, hc, hs, h1q7⟩ := aN.1 h
    obtain ⟨A2, n2, c2, y2q7, rfl, hc2, hs2, h2q7⟩ := aN.1 h1q7
    obtain ⟨A3q7, n3, c3, y3q7, rfl, hc3, hs3, h3q7⟩ := aN.1 h2q7
    obtain ⟨y4q7, rfl, h4q7⟩ := bq.1 h3q7
    rw [aP] at h4q7
    subst h4q7
    exact ⟨A, n, c, A2, n2, c2, A3q7, n3, c3, rfl, hc, hc2, hc3, hs, hs2, hs3⟩
  · rintro ⟨A, n, c, A2, n2, c2, A3q7, n3, c3, rfl, hc, hc2, hc3, hs, hs2, hs3⟩
    exact aN.2 ⟨A, n, c, _, rfl, hc, hs, aN.2 ⟨A2, n2, c2, _, rfl, hc2, hs2, aN.2 ⟨A3q7, n3, c3, _, rfl, hc3, hs3, bq.2 ⟨[], rfl, aP.2 rfl⟩⟩⟩⟩
def TraceRes (w : World) (l : List ai) (e : Ending) (w' : World) : Prop := ∃ A n c, e = .returned (.slice A n c) /\ l.length = n /\ n <= c /\ Sl w' (av w') A n (l.map encZ) /\ Ext w w'
theorem traceS_snoc {u : ay} : ∀ (l : List Int) (t : Int) (s : ai), traceS u s (l ++ [t]) = traceS u s l ++ [gE u s (l ++ [t])]
  | [], _, _ => rfl
  | a :: l, t, s => by
    show s :: traceS u (aV u s a).1 (l ++ [t]) = s :: (traceS u (aV u s a).1 l ++ [gE u (aV u s a).1 (l ++ [t])])
    rw [traceS_snoc l]
theorem SV.Is.rep {q : SV} {w : World} {P : Nat -> Prop} {s : ai} (h : q.Is w P s) : (encZ s).rep w P [.slice q.GA q.gn q.gc, .slice q.TA q.tn q.tc, .slice q.HA q.hn q.hc, .int .i64 s.fault] :=
  encZ_iff.2 ⟨_, _, _, _, _, _, _, _, _, rfl, h.gc, h.tc, h.hc, h.at_⟩
theorem encZ_sz (s : ai) : (encZ s).sz = 4 := rfl
theorem Sl.stAt {w : World} {P : Nat -> Prop} {A : Option Addr} {n : Nat} {l : List ai} (h : Sl w P A n (l.map encZ)) {k : Nat} (hkq7 : k < n) :
    ∃ b o s GA gn gc TA tn tc HA hn hc, A = some ⟨b, o, none⟩ /\ P b /\ l[k]? = some s /\ (⟨GA, gn, gc, TA, tn, tc, HA, hn, hc⟩ : SV).Is w P s /\ w.cell? ⟨b, o + k * 4, none⟩ = some (.slice GA gn gc) /\ w.cell? ⟨b, o + k * 4 + 1, none⟩ = some (.slice TA tn tc) /\
      w.cell? ⟨b, o + k * 4 + 2, none⟩ = some (.slice HA hn hc) /\ w.cell? ⟨b, o + k * 4 + 3, none⟩ = some (.int .i64 s.fault) := by
  obtain ⟨b, o, s, cs, hAq7, hbq7, hx, hrq7, _, hc⟩ := Sl.g6 (z := 4) h encZ_sz hkq7
  obtain ⟨GA, gn, gc, TA, tn, tc, HA, hn, hcc, rfl, h1q7, h2q7, h3q7, h4q7⟩ := encZ_iff.1 hrq7
  have h5q7 := hc 0 _ rfl
  simp only [Nat.add_zero] at h5q7
  exact ⟨b, o, s, GA, gn, gc, TA, tn, tc, HA, hn, hcc, hAq7, hbq7, hx, ⟨h4q7, h1q7, h2q7, h3q7⟩, h5q7, hc 1 _ rfl, hc 2 _ rfl, hc 3 _ rfl⟩
set_option maxRecDepth 1000000 in
set_option maxHeartbeats 1600000 in
theorem strace (u : ay) (l : List Int) (A : Option Addr) (n c : Nat) (w : World) (p : UV) (hU : tV u) (hu : p.Ok w u) (hl : cp (EF cP) 1 w w.heap.size A n l) (hn : n <= 90000) :
    Calls Tryz.prog 40 #[.agg (p.val u), .slice A n c] w (TraceRes w (traceS u (dG u) l)) := by
  obtain ⟨GA, gn, gc, MA, mn, mc, PA, pn, pc⟩ := p
  have HVq7 := ae (And.intro hu hl)
  have HUq7 := ae hU
  clear hU hu hl
  dsimp only [UV.val]
  go_enter Tryz.func40, Tryz.ntmps40
  go_upto_region 1 with (fail)
  generalize hWq7 : World.alloc _ _ = W
  have hEq7 : Ext w W := by rw [<- hWq7]; exact (Fr.refl _ _).alloc _
  have hBq7 : aq W w.heap.size 30 #[.slice GA gn gc, .slice MA mn mc, .slice PA pn pc, .int .i64 u.main] := by rw [<- hWq7]; exact aq.new _ _ _
  have HWq7 := ae (And.intro hEq7 (And.intro hBq7 (And.intro (HVq7.o.1.on hEq7) (HVq7.o.2.c8 (Fr.ext hEq7) hEq7.size))))
  have hWs := hEq7.size
  obtain ⟨a0, a0f, a0l⟩ := hBq7.two
  clear hWq7 hEq7 hBq7 HVq7
  go_wp2_with (fail)
  refine (Jh u W ⟨GA, gn, gc, MA, mn, mc, PA, pn, pc⟩ HUq7.o HWq7.o.2.2.1).mono ?_
  rintro e w1q7 ⟨⟨SA, snq7, scq7, TA, tn, tc, HA, hn', hc⟩, rfl, hq0, hE1⟩
  have hs1 := hE1.size
  have H1 := ae (And.intro hq0 hE1)
  clear hq0 hE1 a0 a0f a0l
  dsimp only [SV.val]
  go_upto_region 2 with (fail)
  generalize hV : World.alloc _ _ = V
  have hEV : Ext w1q7 V := by rw [<- hV]; exact (Fr.refl _ _).alloc _
  have hBV : aq V w1q7.heap.size 40 #[.slice SA snq7 scq7, .slice TA tn tc, .slice HA hn' hc, .int .i64 (dG u).fault] := by rw [<- hV]; exact aq.new _ _ _
  have hVg := hBV.lt
  have hqV : (⟨SA, snq7, scq7, TA, tn, tc, HA, hn', hc⟩ : SV).Is V (λb => (W.heap.size <= b /\ b ≠ w1q7.heap.size) /\ b < V.heap.size) (dG u) := (H1.o.1.al λb hbq7 => hEV.block b (hbq7.resolve_left λh => h).2 λh => h).mono λb hbq7 => by
    have := hbq7.resolve_left λh => h
    omega
  have HVV := ae (And.intro hqV (And.intro hBV (H1.o.2.trans hEV)))
  obtain ⟨v0, v0f, v0l⟩ := hBV.two
  clear hV hEV hBV hqV
  generalize hgq7 : w1q7.heap.size = g at *
  go_upto_region 3 with (fail)
  generalize hX : World.alloc _ _ = X
  have hEX : Ext V X := by rw [<- hX]; exact (Fr.refl _ _).alloc _
  have hXs : V.heap.size < X.heap.size := by rw [<- hX]; simp
  have g0q7 : Gr (λb => W.heap.size <= b /\ b ≠ g) V.heap.size 40 4 X (some ⟨V.heap.size, 0, none⟩) 1 1 ([dG u].map encZ) := by
    rw [<- hX]
    exact Gr.lit (l := [encZ (dG u)]) rfl rfl (by omega) (D.bm.2 HVV.o.1.rep)
  have hqX : (⟨SA, snq7, scq7, TA, tn, tc, HA, hn', hc⟩ : SV).Is X (lL (λb => W.heap.size <= b /\ b ≠ g) X (.slice (some ⟨V.heap.size, 0, none⟩) 1 1)) (dG u) := (HVV.o.1.al λb hbq7 => hEX.block b hbq7.2 λh => h).mono λb hbq7 => ⟨hbq7.1, by omega, λhc => by simp [Value.ownBlock] at hc; omega⟩
  have HXq7 := ae (And.intro g0q7 (And.intro hqX (And.intro (HVV.o.2.2.trans hEX) (HVV.o.2.1.aj hEX))))
  clear hX hEX g0q7 hqX v0 v0f
  go_wp2_with (fail)
  go_loopw [6, 15] (λovq7 ivq7 wr => ∃ (k : Nat) (q : SV) (D : Option Addr) (dcq7 : Nat), ovq7 = .slice D (k + 1) dcq7 /\ ivq7 = .int .i64 k /\ k <= n /\ V.heap.size <= wr.heap.size /\ Ext W wr /\ aq wr g 40 (q.val (gE u (dG u) (l.take k))) /\ q.Is wr (lL (λb => W.heap.size <= b /\ b ≠ g) wr (.slice D (k + 1) dcq7)) (gE u (dG u) (l.take k)) /\ Gr (λb => W.heap.size <= b /\ b ≠ g) V.heap.size 40 4 wr D (k + 1) dcq7 ((traceS u (dG u) (l.take k)).map encZ)) (λ_ ivq7 _ => n - (intOf ivq7).toNat)
  case atStart => exact ⟨0, _, _, _, rfl, rfl, by omega, Nat.le_of_lt hXs, HXq7.o.2.2.1, HXq7.o.2.2.2, HXq7.o.2.1, HXq7.o.1⟩
  case round =>
    obtain ⟨k, ⟨SB, sm, sdq7, TB, tmq7, tdq7, HBq7, hm, hd⟩, D, dcq7, rfl, rfl, hkq7, hVr, hEr, hBl, hIs, hGr⟩ := hrel
    have hok := w9 HUq7.o.ok (l.take k) 0 (dG u) (pg HUq7.o.ok)
    rw [List.length_take] at hok
    have hsn : ∀ t, l[k]? = some t -> gE u (dG u) (l.take (k + 1)) = (aV u (gE u (dG u) (l.take k)) t).1 /\ traceS u (dG u) (l.take (k + 1)) = traceS u (dG u) (l.take k) ++ [(aV u (gE u (dG u) (l.take k)) t).1] := λt ht => by
      rw [a1 ht, qW, traceS_snoc, qW]
      exact ⟨rfl, rfl⟩
    have hlast : k = n -> l.take k = l := λh => List.take_of_length_le (by have := HWq7.o.2.2.2.1; omega)
    have HLq7 := ae hlast
    by_cases hlt : k < n
    · generalize gE u (dG u) (l.take k) = S at *
      generalize traceS u (dG u) (l.take k) = L at *
      have hlI := HWq7.o.2.2.2.c8 (Fr.ext hEr) hEr.size
      obtain ⟨b, o, t, hAe, hbq7, hx, hc⟩ := hlI.int hlt
      subst hAe
      have HX2 := ae (hsn t hx)
      obtain ⟨x0q7, x0f, x0l⟩ := (HWq7.o.2.1.aj hEr).two
      obtain ⟨g0q7, g0f, g0l⟩ := hBl.two
      have HRq7 := ae (And.intro hEr (And.intro hBl (And.intro hIs (And.intro hGr hok))))
      clear hEr hBl hIs hGr hok hsn hlast hlI hx
      go_wp2_with (fail)
      refine (qv u S t (0 + min k l.length) wr ⟨GA, gn, gc, MA, mn, mc, PA, pn, pc⟩ ⟨SB, sm, sdq7, TB, tmq7, tdq7, HBq7, hm, hd⟩ HUq7.o HRq7.o.2.2.2.2 (by omega) (HWq7.o.2.2.1.on HRq7.o.1) (HRq7.o.2.2.1.ok λb hbq7 => hbq7.2.1)).mono ?_
      rintro e w4q7 ⟨⟨SC, cmq7, cdq7, TC, tm2, td2, HCq7, hm2, hd2⟩, rfl, hq4, hE4⟩
      generalize (aV u S t).1 = T at *
      have hs4 := hE4.size
      have hB4 := HRq7.o.2.1.aj hE4
      have H4q7 := ae (And.intro hq4 (And.intro hE4 hB4))
      obtain ⟨y0q7, y0f, y0l⟩ := hB4.two
      clear hq4 hE4 x0q7 x0f x0l g0q7 g0f hB4 hc
      dsimp only [SV.val]
      go_upto_region 7 with (fail)
      generalize hYq7 : World.setCell _ _ _ = Y
      obtain ⟨hBY, hFY⟩ := km 0 [.slice SC cmq7 cdq7, .slice TC tm2 td2, .slice HCq7 hm2 hd2, .int .i64 T.fault] H4q7.o.2.2 hYq7
      have hBY : aq Y g 40 #[.slice SC cmq7 cdq7, .slice TC tm2 td2, .slice HCq7 hm2 hd2, .int .i64 T.fault] := hBY
      have hYs := hFY.size
      have wC : ∀ b, (Value.slice D (k + 1) dcq7).ownBlock = some b -> V.heap.size <= b /\ b < wr.heap.size := λb hbq7 => HRq7.o.2.2.2.1.lt hbq7
      have hno : (Value.slice D (k + 1) dcq7).ownBlock ≠ some g := λh => by have := wC g h; omega
      have hqY : (⟨SC, cmq7, cdq7, TC, tm2, td2, HCq7, hm2, hd2⟩ : SV).Is Y (lL (λb => W.heap.size <= b /\ b ≠ g) Y (.slice D (k + 1) dcq7)) T := (H4q7.o.1.al λb hbq7 => by
          have := hbq7.resolve_left λh => h
          exact hFY.block b this.2 (by omega)).mono λb hbq7 => by
        have h1q7 := hbq7.resolve_left λh => h
        have h2q7 := HRq7.o.1.size
        exact ⟨⟨by omega, by omega⟩, by omega, λh => by have := (wC b h).2; omega⟩
      have hGY : Gr (λb => W.heap.size <= b /\ b ≠ g) V.heap.size 40 4 Y D (k + 1) dcq7 (L.map encZ) := (HRq7.o.2.2.2.1.aj H4q7.o.2.1).dm hFY.size λb hbq7 hp => hFY.block b hbq7 λh => by
        subst h
        rcases hp with hp | hp
        · exact hp.2 rfl
        · exact hno hp
      have HYq7 := ae (And.intro hFY (And.intro hBY (And.intro hqY hGY)))
      obtain ⟨z0q7, z0f, z0l⟩ := hBY.two
      have hWr := HRq7.o.1.size
      have HRW := ae wC
      clear hYq7 hFY hBY hqY hGY y0q7 y0f y0l wC
      go_wp2_with (at_builtin; refine bT appSt rfl (.tmp 26) (.tmp 28) rfl HYq7.o.2.2.2 (d := encZ T) (cs := #[.slice SC cmq7 cdq7, .slice TC tm2 td2, .slice HCq7 hm2 hd2, .int .i64 T.fault]) HYq7.o.2.2.1.rep rfl rfl rfl (by omega) (by omega) (by omega) ?_; intro A3q7 c3 w3q7 g1q7 g2 g3q7 g4q7; have HNq7 := ae (And.intro g1q7 (And.intro g2 g3q7)); clear g1q7 g2 g3q7 g4q7)
      go_roundw
      case rel =>
        have wC := HRW.o
        have hF : Fr (λb => b = g \/ (Value.slice D (k + 1) dcq7).ownBlock = some b) wr w3q7 := Fr.trans (Fr.trans (H4q7.o.2.1.mono λ_ h => h.elim) (HYq7.o.1.mono λ_ h => .inl h)) (HNq7.o.2.1.mono λ_ h => .inr h)
        have h3s := HNq7.o.2.1.size
        refine ⟨k + 1, ⟨SC, cmq7, cdq7, TC, tm2, td2, HCq7, hm2, hd2⟩, A3q7, c3, by first | rfl | go_num, by go_num, by omega, by omega, ?_, ?_, ?_, ?_⟩
        · exact Fr.low (M := λb => b = g \/ (Value.slice D (k + 1) dcq7).ownBlock = some b) (Fr.trans (HRq7.o.1.mono λ_ h => h.elim) hF) λb hbq7 => by
            rcases hbq7 with hbq7 | hbq7
            · omega
            · have := (wC b hbq7).1; omega
        · rw [HX2.o.1]
          exact HYq7.o.2.1.on HNq7.o.2.1 hno
        · rw [HX2.o.1]
          exact (HYq7.o.2.2.1.al λb hbq7 => HNq7.o.2.1.block b hbq7.2.1 hbq7.2.2).mono λb hbq7 => ⟨hbq7.1, by have := hbq7.2.1; omega, λhc => by
            rcases HNq7.o.2.2 b hc with h | h
            · exact hbq7.2.2 h
            · have := hbq7.2.1; omega⟩
        · rw [HX2.o.2, List.map_append]
          exact HNq7.o.1
      case measure => simp [intOf]; omega
    · obtain rfl : k = n := by omega
      have hx := HLq7.o rfl
      rw [hx] at hGr
      have HGq7 := ae (And.intro hGr hEr)
      have hlen := hGr.len
      clear hBl hIs hGr hok hsn hlast hEr hx
      go_wp2_with (fail)
      go_ret
      exact ⟨D, k + 1, dcq7, rfl, by simpa using hlen, HGq7.o.1.cap.1, HGq7.o.1.sl (λb hbq7 _ => hbq7) (λb hbq7 _ => hbq7), HWq7.o.1.trans HGq7.o.2⟩
end Go.Proofs.YtkhnkojkplbioaaGreat
