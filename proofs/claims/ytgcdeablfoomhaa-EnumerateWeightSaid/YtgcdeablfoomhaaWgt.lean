/- EnumerateWeight returns true. -/
import Derived.Test.YtgcdeablfoomhaaPlW
set_option linter.unusedVariables false
set_option linter.unusedSimpArgs false
namespace Go.Proofs.Ytgcdeablfoomhaa.PAll
open Go.RowKit Go.Proofs.YtgcdeablfoomhaaW.PrintWords Go.Proofs.YtgcdeablfoomhaaW.PrintLast Go.Proofs.YtgcdeablfoomhaaW.PrintMore

/-- A state that is read: its three slices. -/
structure SR (w : World) (A0 : Option Addr) (c0 : Nat) (l0 : List (List Int)) (A1 : Option Addr) (c1 : Nat) (l1 : List Int) (A2 : Option Addr) (c2 : Nat) (l2 : List Int) : Prop where
  r0 : Kd.C (Kd.slice 3 (Kd.int .i64)) w A0 l0.length l0
  h0 : l0.length ≤ c0
  r1 : Kd.C (Kd.int .i64) w A1 l1.length l1
  h1 : l1.length ≤ c1
  r2 : Kd.C (Kd.int .i64) w A2 l2.length l2
  h2 : l2.length ≤ c2
section
variable {w w' : World} {A0 A1 A2 : Option Addr} {c0 c1 c2 : Nat} {l0 : List (List Int)} {l1 l2 : List Int}
theorem SR.below (h : SR w A0 c0 l0 A1 c1 l1 A2 c2 l2) (hb : Below w.heap.size w w') : SR w' A0 c0 l0 A1 c1 l1 A2 c2 l2 := ⟨Kd.C_below h.r0 hb, h.h0, Kd.C_below h.r1 hb, h.h1, Kd.C_below h.r2 hb, h.h2⟩
theorem C_lens {A : Option Addr} {L : List (List Int)} (h : Kd.C (Kd.slice 3 (Kd.int .i64)) w A L.length L) : ∀ l ∈ L, l.length ≤ 9223372036854775807 := by
  intro l hl
  obtain ⟨j, hj, rfl⟩ := List.mem_iff_getElem.1 hl
  obtain ⟨ad, e, hc⟩ := h.2.2 (by omega)
  obtain ⟨c, hs, ⟨A', c', _, _, hk⟩, _⟩ := hc j _ (List.getElem?_eq_getElem hj)
  exact hk.2.1
theorem SR.lens (h : SR w A0 c0 l0 A1 c1 l1 A2 c2 l2) : ∀ l ∈ l0 ++ [l1, l2], l.length ≤ 9223372036854775807 := by
  intro l hl
  rcases List.mem_append.1 hl with hl | hl
  · exact C_lens h.r0 l hl
  · simp at hl
    rcases hl with rfl | rfl
    · exact h.r1.2.1
    · exact h.r2.2.1
/-- The value that a state is. -/
def agg3 (A0 : Option Addr) (c0 : Nat) (l0 : List (List Int)) (A1 : Option Addr) (c1 : Nat) (l1 : List Int) (A2 : Option Addr) (c2 : Nat) (l2 : List Int) : Value := .agg #[.slice A0 l0.length c0, .slice A1 l1.length c1, .slice A2 l2.length c2]
theorem fits_calls (h : SR w A0 c0 l0 A1 c1 l1 A2 c2 l2) (hl : l0.length ≤ 5864062014634) : Calls Try.prog 19 #[.agg #[.slice A0 l0.length c0, .slice A1 l1.length c1, .slice A2 l2.length c2]] w fun e w' => e = .returned (.bool (fitsL (l0 ++ [l1, l2]))) ∧ Below w.heap.size w w' := by
  obtain ⟨k, hk⟩ := fits_f l0 l1 l2 hl h.lens
  exact backstepref12_Fits.calls k A0 c0 l0 A1 c1 l1 A2 c2 l2 _ w h.r0 h.h0 h.r1 h.h1 h.r2 h.h2 hk
theorem weight_calls (h : SR w A0 c0 l0 A1 c1 l1 A2 c2 l2) (hl : l0.length ≤ 5864062014634) (hf : fitsL (l0 ++ [l1, l2]) = true) : Calls Try.prog 20 #[.agg #[.slice A0 l0.length c0, .slice A1 l1.length c1, .slice A2 l2.length c2]] w fun e w' => e = .returned (.int .i64 (wtW 0 (l0 ++ [l1, l2]))) ∧ Below w.heap.size w w' := by
  unfold fitsL at hf
  rw [Bool.and_eq_true] at hf
  obtain ⟨k, hk⟩ := weight_f l0 l1 l2 hl hf.1 h.lens
  exact enumerate_Weight.calls k A0 c0 l0 A1 c1 l1 A2 c2 l2 _ w h.r0 h.h0 h.r1 h.h1 h.r2 h.h2 hk
theorem refweight_calls (h : SR w A0 c0 l0 A1 c1 l1 A2 c2 l2) (hl : l0.length ≤ 5864062014634) (hf : fitsL (l0 ++ [l1, l2]) = true) : Calls Try.prog 21 #[.agg #[.slice A0 l0.length c0, .slice A1 l1.length c1, .slice A2 l2.length c2]] w fun e w' => e = .returned (.int .i64 (wtW 0 (l0 ++ [l1, l2]))) ∧ Below w.heap.size w w' := by
  unfold fitsL at hf
  rw [Bool.and_eq_true] at hf
  obtain ⟨k, hk⟩ := refweight_f l0 l1 l2 hl hf.1 h.lens
  exact backstepref12_Weight.calls k A0 c0 l0 A1 c1 l1 A2 c2 l2 _ w h.r0 h.h0 h.r1 h.h1 h.r2 h.h2 hk
end
/-- A box, as the walk loads it whole. -/
theorem BoxA.cells3 {W : World} {B : Nat} {s0 s1 s2 : Value} (h : BoxA W B s0 s1 s2) : W.cell? ⟨B, 0, none⟩ = some s0 ∧ W.cell? ⟨B, 1, none⟩ = some s1 ∧ W.cell? ⟨B, 2, none⟩ = some s2 := ⟨h.c0, h.c1, h.c2⟩
theorem tab5_3 : rtab .any (opsOf Try.f5 3) = (true, [([], []), ([0], [0]), ([], []), ([2, 1], [2]), ([1, 3], [1, 3]), ([4, 3, 0, 1, 2, 3, 4], [4])]) := by kernel_rfl
theorem bits5_3 : waitsOk (true, [([], []), ([0], [0]), ([], []), ([2, 1], [2]), ([1, 3], [1, 3]), ([4, 3, 0, 1, 2, 3, 4], [4])]).2 [0, 1, 0, 7, 15, 31] = true := by decide +kernel

set_option maxRecDepth 100000 in
set_option maxHeartbeats 8000000 in
theorem EnumerateWeight_calls (A0 : Option Addr) (c0 : Nat) (l0 : List (List Int)) (A1 : Option Addr) (c1 : Nat) (l1 : List Int) (A2 : Option Addr) (c2 : Nat) (l2 : List Int) (W : World) (hr0 : Kd.C (Kd.slice 3 (Kd.int .i64)) W A0 l0.length l0) (hc0 : l0.length ≤ c0) (hr1 : Kd.C (Kd.int .i64) W A1 l1.length l1) (hc1 : l1.length ≤ c1) (hr2 : Kd.C (Kd.int .i64) W A2 l2.length l2) (hc2 : l2.length ≤ c2) (hl : l0.length ≤ 5864062014634) :
    Calls Try.prog 5 #[.agg #[.slice A0 l0.length c0, .slice A1 l1.length c1, .slice A2 l2.length c2]] W fun e w' => e = .returned (.bool true) ∧ Below W.heap.size W w' := by
  have HSR := Lib.hid (SR.mk hr0 hc0 hr1 hc1 hr2 hc2)
  clear hr0 hc0 hr1 hc1 hr2 hc2
  obtain ⟨B1, hB1⟩ : ∃ b, b = W.heap.size := ⟨_, rfl⟩
  go_enter Try.func5, Try.ntmps5
  go_wp2_with (fail)
  obtain ⟨w1, hw1⟩ : ∃ w1, w1 = W.alloc (.cells #[.slice A0 l0.length c0, .slice A1 l1.length c1, .slice A2 l2.length c2] 35) := ⟨_, rfl⟩
  rw [← hw1, ← hB1]
  have hbx : BoxA w1 B1 (.slice A0 l0.length c0) (.slice A1 l1.length c1) (.slice A2 l2.length c2) := by rw [hw1, hB1]; exact BoxA.new _ _ _ _
  have hb1 : Below W.heap.size W w1 := by rw [hw1]; exact below_alloc (Below.refl _ _) _
  have HBX := Lib.hid hbx
  have HB1 := Lib.hid hb1
  clear hw1 hB1 hbx hb1
  refine (awake_calls _).mono ?_
  rintro e w2 ⟨rfl, hb⟩
  have HB2 := Lib.hid (HB1.out.trans (hb.mono HB1.out.size))
  have hbx2 := HBX.out.below hb HBX.out.lt
  have hx0 := hbx2.c0
  have hx1 := hbx2.c1
  have hx2 := hbx2.c2
  have HBX2 := Lib.hid hbx2
  clear hb hbx2 HBX HB1
  go_wp2_with (fail)
  refine (fits_calls (HSR.out.below HB2.out) hl).mono ?_
  rintro e w3 ⟨rfl, hb⟩
  have HB3 := Lib.hid (HB2.out.trans (hb.mono HB2.out.size))
  have hbx3 := HBX2.out.below hb HBX2.out.lt
  have HBX3 := Lib.hid hbx3
  clear hb hbx3 HBX2 HB2 hx0 hx1 hx2
  cases hf : fitsL (l0 ++ [l1, l2]) with
  | false =>
    clear hf
    go_wp2_with (fail)
    refine (awake_calls _).mono ?_
    rintro e w4 ⟨rfl, hb⟩
    have HB4 := Lib.hid (HB3.out.trans (hb.mono HB3.out.size))
    clear hb
    go_wp2
    go_ret
    exact ⟨rfl, HB4.out⟩
  | true =>
    have HF := Lib.hid hf
    have hs : ∀ w', Below w3.heap.size w3 w' → w'.cell? ⟨B1, 0, none⟩ = some (.slice A0 l0.length c0) ∧ w'.cell? ⟨B1, 1, none⟩ = some (.slice A1 l1.length c1) ∧ w'.cell? ⟨B1, 2, none⟩ = some (.slice A2 l2.length c2) := fun w' hb => (HBX3.out.below hb HBX3.out.lt).cells3
    have HS := Lib.hid hs
    have HSR3 := Lib.hid (HSR.out.below HB3.out)
    obtain ⟨q, hq⟩ : ∃ q, q = wtW 0 (l0 ++ [l1, l2]) := ⟨_, rfl⟩
    have HQ := Lib.hid hq
    clear hf hs hq
    go_wp2_with (fail)
    refine start_ (n := 6) (S := fun w' => w'.cell? ⟨B1, 0, none⟩ = some (.slice A0 l0.length c0) ∧ w'.cell? ⟨B1, 1, none⟩ = some (.slice A1 l1.length c1) ∧ w'.cell? ⟨B1, 2, none⟩ = some (.slice A2 l2.length c2)) (ds := []) #[false, false, false, false, false, false] (by kernel_rfl) rfl rfl (HS.out _ (below_drew1 (Below.refl _ _))) (fun hHeld => ?_); refine with_tabW tab5_3 bits5_3 (fun HT_ HW_ => ?_)
    obtain ⟨W0, hW0⟩ : ∃ W0, W0 = w3.drew := ⟨_, rfl⟩
    have HS0 := HS
    have HB0 : Hid (Below W0.heap.size W0 W0) := Lib.hid (Below.refl _ _)
    have hs2 : ∀ w', Below W0.heap.size W0 w' → w'.cell? ⟨B1, 0, none⟩ = some (.slice A0 l0.length c0) ∧ w'.cell? ⟨B1, 1, none⟩ = some (.slice A1 l1.length c1) ∧ w'.cell? ⟨B1, 2, none⟩ = some (.slice A2 l2.length c2) := fun w' hb => by
      have h9 : Below w3.heap.size w3 W0 := by rw [hW0]; exact below_drew1 (Below.refl _ _)
      exact HS0.out w' (h9.trans (hb.mono h9.size))
    have hsr2 := HSR3.out.below (w' := W0) (by rw [hW0]; exact below_drew1 (Below.refl _ _))
    have hbe : Below W.heap.size W W0 := by rw [hW0]; exact HB3.out.trans ((below_drew1 (Below.refl _ _)).mono HB3.out.size)
    rw [← hW0] at hHeld ⊢
    clear hW0 HS
    have HS := Lib.hid hs2
    have HSRW := Lib.hid hsr2
    have HBE := Lib.hid hbe
    clear hs2 hsr2 hbe
    refine take_ (i := 0) (N := some 11) (v := ?_) (a' := ?_) #[true, false, false, false, false, false] rfl rfl (take_ofW HT_.out HW_.out (by kernel_rfl)) (fun _ _ _ h => h) (Or.inl ⟨by rfl, ?_⟩) hHeld ?_ ?_
    rotate_left
    · rintro w' ⟨s0, s1, s2⟩
      go_simp
      with_reducible rfl
    rotate_left
    · simp only [Act.put, List.setIfInBounds_toArray, List.set_cons_zero, List.set_cons_succ, i64_w, i32_w]
      rfl
    refine take_ (i := 2) (N := some 13) (v := ?_) (a' := ?_) #[true, false, true, false, false, false] rfl rfl (take_ofW HT_.out HW_.out (by kernel_rfl)) (fun _ _ _ h => h) (Or.inl ⟨by rfl, ?_⟩) hHeld ?_ ?_
    rotate_left
    · rintro w' ⟨s0, s1, s2⟩
      go_simp
      with_reducible rfl
    rotate_left
    · simp only [Act.put, List.setIfInBounds_toArray, List.set_cons_zero, List.set_cons_succ, i64_w, i32_w]
      rfl
    refine join_ (σ := Unit) 2 #[true, true, true, true, false, false] (fun _ => [(12, .int .i64 q), (14, .int .i64 q)]) (fun _ w' => Below W0.heap.size W0 w') ?hc5_3 (fun HCONT => ?ht5_3)
    case ht5_3 =>
      refine one_ (i := 1) (N := some 12) #[true, true, true, false, false, false] rfl rfl (one_of HT_.out (by kernel_rfl)) (by decide) (fun K hK => ?_)
      refine goes_ Try.func20 (by kernel_rfl) rfl #[.agg #[.slice A0 l0.length c0, .slice A1 l1.length c1, .slice A2 l2.length c2]] (by rfl) rfl rfl (by first | rfl | simp [Act.eval]) ?_
      refine (weight_calls (HSRW.out.below HB0.out) hl HF.out).mono ?_
      rw [← HQ.out]; rintro e w5_3_1 ⟨rfl, hb⟩
      refine ⟨_, rfl, ?_⟩
      have HB5_3_1 := Lib.hid (HB0.out.trans (hb.mono HB0.out.size))
      clear hb
      refine hK.out _ _ (HS.out _ HB5_3_1.out) (fun hHeld => ?_)
      clear hK K
      refine norm_ (a' := ?_) ?_ ?_
      rotate_left
      · show Act.put _ (some 12) _ = _
        simp only [Act.put, List.setIfInBounds_toArray, List.set_cons_zero, List.set_cons_succ, i64_w, i32_w]
        rfl
      refine one_ (i := 3) (N := some 14) #[true, true, true, true, false, false] rfl rfl (one_of HT_.out (by kernel_rfl)) (by decide) (fun K hK => ?_)
      refine goes_ Try.func21 (by kernel_rfl) rfl #[.agg #[.slice A0 l0.length c0, .slice A1 l1.length c1, .slice A2 l2.length c2]] (by rfl) rfl rfl (by first | rfl | simp [Act.eval]) ?_
      refine (refweight_calls (HSRW.out.below HB5_3_1.out) hl HF.out).mono ?_
      rw [← HQ.out]; rintro e w5_3_2 ⟨rfl, hb⟩
      refine ⟨_, rfl, ?_⟩
      have HB5_3_2 := Lib.hid (HB5_3_1.out.trans (hb.mono HB5_3_1.out.size))
      clear hb
      refine hK.out _ _ (HS.out _ HB5_3_2.out) (fun hHeld => ?_)
      clear hK K
      refine norm_ (a' := ?_) ?_ ?_
      rotate_left
      · show Act.put _ (some 14) _ = _
        simp only [Act.put, List.setIfInBounds_toArray, List.set_cons_zero, List.set_cons_succ, i64_w, i32_w]
        rfl
      have hc := HCONT () _ HB5_3_2.out
      simp only [putAll, Act.put, List.setIfInBounds_toArray, List.set_cons_zero, List.set_cons_succ] at hc
      exact hc
    case hc5_3 =>
      rintro ⟨⟩ wz hbz
      have HBZ := Lib.hid hbz
      clear hbz
      have hHeld := HS.out _ HBZ.out
      refine norm_ (a' := ?_) ?_ ?_
      rotate_left
      · simp only [putAll, Act.put, List.setIfInBounds_toArray, List.set_cons_zero, List.set_cons_succ]
        rfl
      refine pure_ (i := 4) (N := some 15) (v := ?_) (a' := ?_) #[true, true, true, true, true, false] rfl rfl (any_of HT_.out (by kernel_rfl)) (fun _ _ _ h => h) (Or.inl ⟨by rfl, ?_⟩) ?_ ?_
      rotate_left
      · intro w'
        go_simp
        with_reducible rfl
      rotate_left
      · simp only [Act.put, List.setIfInBounds_toArray, List.set_cons_zero, List.set_cons_succ, i64_w, i32_w]
        rfl
      refine pure_ (i := 5) (N := some 2) (v := ?_) (a' := ?_) #[true, true, true, true, true, true] rfl rfl (any_of HT_.out (by kernel_rfl)) (fun _ _ _ h => h) (Or.inl ⟨by rfl, ?_⟩) ?_ ?_
      rotate_left
      · intro w'
        go_simp
        with_reducible rfl
      rotate_left
      · simp only [Act.put, List.setIfInBounds_toArray, List.set_cons_zero, List.set_cons_succ, i64_w, i32_w]
        rfl
      refine done_ (done_of HT_.out (by kernel_rfl)) ?_
      go_wp2
      go_ret
      exact ⟨rfl, HBE.out.trans (HBZ.out.mono HBE.out.size)⟩
end Go.Proofs.Ytgcdeablfoomhaa.PAll
