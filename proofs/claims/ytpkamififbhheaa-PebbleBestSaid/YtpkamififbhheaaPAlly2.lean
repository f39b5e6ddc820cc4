-- LAID BY A PROGRAM (wip/tprint.py) out of the translation. Nothing here is trusted.
import Derived.Test.YtpkamififbhheaaPAllx0
namespace Go.Proofs.Ytpkamififbhheaa.PAll
open Go.RowKit Go.Proofs.YtpkamififbhheaaW.PrintWords Go.Proofs.YtpkamififbhheaaW.PrintLast Go.Proofs.YtpkamififbhheaaW.PrintMore
attribute [local go_sem] max2_int min2_int max_two min_two max_three min_three max_four min_four   -- for this text's walks alone
set_option linter.unusedVariables false
set_option linter.unusedSimpArgs false

/-! ### backstepref44_after: function 29 -/
mutual
def backstepref44_after.j0 : Nat → Int → Int → Int → Int → Option (Int)
  | 0, _, _, _, _ => none
  | k + 1, x0, x1, x2, x7 => if x7 < 1 then (backstepref44_after.j1 k x1 x2 x7 true) else (backstepref44_after.j1 k x1 x2 x7 (decide (x7 > x0)))
def backstepref44_after.j1 : Nat → Int → Int → Int → Bool → Option (Int)
  | 0, _, _, _, _ => none
  | k + 1, x1, x2, x7, x21 => if x21 = true then (some (-1)) else (if 0 ≤ (wrap64 (x7 - 1)) then (if (((Go.bits .and .i64 x1 (shl .i64 1 (wrap64 (x7 - 1)))) != 0) == (decide (x2 > 0))) = true then (some (-1)) else (if x7 > 1 then (if (Go.bits .and .i64 x1 ((shl .i64 1 (wrap64 (x7 - 1))) / 2)) = 0 then (some (-1)) else (some (Go.bits .xor .i64 x1 (shl .i64 1 (wrap64 (x7 - 1)))))) else (some (Go.bits .xor .i64 x1 (shl .i64 1 (wrap64 (x7 - 1))))))) else (none))
end
def backstepref44_after.f (k : Nat) (a0 : Int) (a1 : Int) (a2 : Int) : Option (Int) := if a2 < 0 then (backstepref44_after.j0 k a0 a1 a2 (wrap64 (-a2))) else (backstepref44_after.j0 k a0 a1 a2 a2)
theorem backstepref44_after.mono_l : ∀ k, (∀ y0 y1 y2 y3, LeO (backstepref44_after.j0 k y0 y1 y2 y3) (backstepref44_after.j0 (k + 1) y0 y1 y2 y3)) ∧ (∀ y0 y1 y2 y3, LeO (backstepref44_after.j1 k y0 y1 y2 y3) (backstepref44_after.j1 (k + 1) y0 y1 y2 y3))
  | 0 => ⟨fun _ _ _ _ r h => by simp [backstepref44_after.j0] at h, fun _ _ _ _ r h => by simp [backstepref44_after.j1] at h⟩
  | k + 1 => by
    obtain ⟨ih0, ih1⟩ := backstepref44_after.mono_l k
    refine ⟨?_, ?_⟩
    · intro y0 y1 y2 y3
      unfold backstepref44_after.j0
      repeat' first
      | (with_reducible exact ih0 _ _ _ _)
      | (with_reducible exact ih1 _ _ _ _)
      | (with_reducible exact LeO.refl _)
      | (with_reducible exact LeO.none _)
      | (with_reducible refine LeO.ite ?_ ?_)
      | (with_reducible refine LeO.bind ?_ (fun _ => ?_))
      | exact ih0 _ _ _ _
      | exact ih1 _ _ _ _
      | exact LeO.none _
      | refine LeO.ite ?_ ?_
      | refine LeO.bind ?_ (fun _ => ?_)
    · intro y0 y1 y2 y3
      unfold backstepref44_after.j1
      repeat' first
      | (with_reducible exact ih0 _ _ _ _)
      | (with_reducible exact ih1 _ _ _ _)
      | (with_reducible exact LeO.refl _)
      | (with_reducible exact LeO.none _)
      | (with_reducible refine LeO.ite ?_ ?_)
      | (with_reducible refine LeO.bind ?_ (fun _ => ?_))
      | exact ih0 _ _ _ _
      | exact ih1 _ _ _ _
      | exact LeO.none _
      | refine LeO.ite ?_ ?_
      | refine LeO.bind ?_ (fun _ => ?_)
theorem backstepref44_after.mono : ∀ a0 a1 a2 k, LeO (backstepref44_after.f k a0 a1 a2) (backstepref44_after.f (k + 1) a0 a1 a2) := by
  intro a0 a1 a2 k
  obtain ⟨ih0, ih1⟩ := backstepref44_after.mono_l k
  unfold backstepref44_after.f
  repeat' first
      | (with_reducible exact ih0 _ _ _ _)
      | (with_reducible exact ih1 _ _ _ _)
      | (with_reducible exact LeO.refl _)
      | (with_reducible exact LeO.none _)
      | (with_reducible refine LeO.ite ?_ ?_)
      | (with_reducible refine LeO.bind ?_ (fun _ => ?_))
      | exact ih0 _ _ _ _
      | exact ih1 _ _ _ _
      | exact LeO.none _
      | refine LeO.ite ?_ ?_
      | refine LeO.bind ?_ (fun _ => ?_)
set_option maxHeartbeats 8000000 in
set_option maxRecDepth 100000 in
theorem backstepref44_after.calls (k : Nat) (a0 : Int) (a1 : Int) (a2 : Int) (r : Int) (w : World) (h : backstepref44_after.f k a0 a1 a2 = some r) :
    Calls Try.prog 29 #[.int .i64 a0, .int .i64 a1, .int .i64 a2] w fun e w' => e = .returned (.int .i64 r) ∧ Drawn0 w w' := by
  have H : (if a2 < 0 then (backstepref44_after.j0 k a0 a1 a2 (wrap64 (-a2))) else (backstepref44_after.j0 k a0 a1 a2 a2)) = some r := h
  clear h
  have HC4 := Aside0.mk H
  clear H
  go_enter Try.func29, Try.ntmps29
  go_upto_if 12 with (fail)
  go_cut [7] (fun v7 wc => ∃ (kq : Nat) (x7_3 : Int), v7 = .int .i64 x7_3 ∧ Aside0 (backstepref44_after.j0 kq a0 a1 a2 x7_3 = some r) ∧ Aside0 (kq ≤ k) ∧ Drawn0 w wc)
  case first =>
    have H := HC4.out
    clear HC4
    by_cases c5 : a2 < 0
    · rw [if_pos c5] at H
      have c5b0 : decide (a2 < 0) = true := decide_eq_true c5
      clear c5
      (first | rw [c5b0] | (simp only [i64_w, i32_w]; rw [c5b0]) | skip)
      have H' := Aside0.mk H
      clear H
      go_wp2
      go_meet
      case rel => exact ⟨_, (wrap64 (-a2)), (by first | rfl | (simp; done) | (simp [*]; done)), H', ⟨by first | omega | exact Nat.le_refl _⟩, by repeat (first | exact Drawn0.refl _ | apply Drawn0.step)⟩
    · rw [if_neg c5] at H
      have c5b0 : decide (a2 < 0) = false := decide_eq_false c5
      clear c5
      (first | rw [c5b0] | (simp only [i64_w, i32_w]; rw [c5b0]) | skip)
      have H' := Aside0.mk H
      clear H
      go_wp2
      go_meet
      case rel => exact ⟨_, (a2), (by first | rfl | (simp; done) | (simp [*]; done)), H', ⟨by first | omega | exact Nat.le_refl _⟩, by repeat (first | exact Drawn0.refl _ | apply Drawn0.step)⟩
  case rest =>
    clear HC4
    try clear c2
    try clear p2
    try clear c5
    try clear c5b0
    obtain ⟨kq, x7_3, rfl, HA, HJ3, ⟨mc3, rfl⟩⟩ := hcut
    cases kq with
    | zero => exact absurd HA.out (by simp [backstepref44_after.j0])
    | succ kj3 =>
      have H := HA.out
      clear HA
      simp only [backstepref44_after.j0] at H
      have HC6 := Aside0.mk H
      clear H
      go_upto_region 4 with (fail)
      go_cut [21] (fun v21 wc => ∃ (kq : Nat) (x21_5 : Bool), v21 = .bool x21_5 ∧ Aside0 (backstepref44_after.j1 kq a1 a2 x7_3 x21_5 = some r) ∧ Aside0 (kq ≤ kj3) ∧ Drawn0 w wc)
      case first =>
        have H := HC6.out
        clear HC6
        by_cases c7 : x7_3 < 1
        · rw [if_pos c7] at H
          have c7b0 : decide (x7_3 < 1) = true := decide_eq_true c7
          clear c7
          (first | rw [c7b0] | (simp only [i64_w, i32_w]; rw [c7b0]) | skip)
          have H' := Aside0.mk H
          clear H
          go_wp2
          go_meet
          case rel => exact ⟨_, (true), (by first | rfl | (simp; done) | (simp [*]; done)), H', ⟨by have := HJ3.out; first | omega | exact Nat.le_refl _⟩, by repeat (first | exact Drawn0.refl _ | apply Drawn0.step)⟩
        · rw [if_neg c7] at H
          have c7b0 : decide (x7_3 < 1) = false := decide_eq_false c7
          clear c7
          (first | rw [c7b0] | (simp only [i64_w, i32_w]; rw [c7b0]) | skip)
          have H' := Aside0.mk H
          clear H
          go_wp2
          go_meet
          case rel => exact ⟨_, (decide (x7_3 > a0)), (by first | rfl | (simp; done) | (simp [*]; done)), H', ⟨by have := HJ3.out; first | omega | exact Nat.le_refl _⟩, by repeat (first | exact Drawn0.refl _ | apply Drawn0.step)⟩
      case rest =>
        clear HC6
        try clear c2
        try clear p2
        try clear c3
        try clear c5
        try clear c5b0
        try clear p6
        try clear c7
        try clear c7b0
        try clear p2
        obtain ⟨kq, x21_5, rfl, HA, HJ5, ⟨mc5, rfl⟩⟩ := hcut
        cases kq with
        | zero => exact absurd HA.out (by simp [backstepref44_after.j1])
        | succ kj5 =>
          have H := HA.out
          clear HA
          simp only [backstepref44_after.j1] at H
          by_cases c8 : x21_5 = true
          · subst c8
            have H1 : (some (-1)) = some r := by rw [if_pos rfl] at H; exact H
            clear H
            have H := H1
            clear H1
            obtain rfl := Option.some.inj H
            go_wp2
            go_ret
            exact ⟨by first | rfl | (simp; done) | (simp [*]; done), by repeat (first | exact Drawn0.refl _ | apply Drawn0.step)⟩
          · replace c8 := Bool.eq_false_iff.mpr c8
            subst c8
            have H1 : (if 0 ≤ (wrap64 (x7_3 - 1)) then (if (((Go.bits .and .i64 a1 (shl .i64 1 (wrap64 (x7_3 - 1)))) != 0) == (decide (a2 > 0))) = true then (some (-1)) else (if x7_3 > 1 then (if (Go.bits .and .i64 a1 ((shl .i64 1 (wrap64 (x7_3 - 1))) / 2)) = 0 then (some (-1)) else (some (Go.bits .xor .i64 a1 (shl .i64 1 (wrap64 (x7_3 - 1)))))) else (some (Go.bits .xor .i64 a1 (shl .i64 1 (wrap64 (x7_3 - 1))))))) else (none)) = some r := by rw [if_neg (show ¬ (false = true) by decide)] at H; exact H
            clear H
            have H := H1
            clear H1
            obtain ⟨ji9, hji9⟩ : ∃ j_ : Int, (wrap64 (x7_3 - 1)) = j_ := ⟨_, rfl⟩
            replace H : (if 0 ≤ (ji9) then (if (((Go.bits .and .i64 a1 (shl .i64 1 (ji9))) != 0) == (decide (a2 > 0))) = true then (some (-1)) else (if x7_3 > 1 then (if (Go.bits .and .i64 a1 ((shl .i64 1 (ji9)) / 2)) = 0 then (some (-1)) else (some (Go.bits .xor .i64 a1 (shl .i64 1 (ji9))))) else (some (Go.bits .xor .i64 a1 (shl .i64 1 (ji9)))))) else (none)) = some r := by first | (rw [hji9] at H; exact H) | (simp only [hji9] at H ⊢; exact H)
            have hji9w : (IntKind.i64.wrap (x7_3 - 1)) = ji9 := (i64_w _).trans hji9
            by_cases c10 : 0 ≤ (ji9)
            · rw [if_pos c10] at H
              have c10b0 := eq_true c10
              have c10b1 : decide (0 ≤ (ji9)) = true := decide_eq_true c10
              clear c10
              obtain ⟨ji11, hji11⟩ : ∃ j_ : Int, (shl .i64 1 (ji9)) = j_ := ⟨_, rfl⟩
              replace H : (if (((Go.bits .and .i64 a1 (ji11)) != 0) == (decide (a2 > 0))) = true then (some (-1)) else (if x7_3 > 1 then (if (Go.bits .and .i64 a1 ((ji11) / 2)) = 0 then (some (-1)) else (some (Go.bits .xor .i64 a1 (ji11)))) else (some (Go.bits .xor .i64 a1 (ji11))))) = some r := by first | (rw [hji11] at H; exact H) | (simp only [hji11] at H ⊢; exact H)
              have hji11_ : (IntKind.i64.wrap (1 * 2 ^ min (ji9).toNat 64)) = ji11 := hji11
              have hji11z : (ji9) ≤ 64 → (IntKind.i64.wrap (1 * 2 ^ (ji9).toNat)) = ji11 := shl_small hji11
              have hji11u : (IntKind.i64.wrap (2 ^ min (ji9).toNat 64)) = ji11 := by have h_ := hji11_; rw [Int.one_mul] at h_; exact h_
              have hji11v : (ji9) ≤ 64 → (IntKind.i64.wrap (2 ^ (ji9).toNat)) = ji11 := fun hle_ => by have h_ := hji11z hle_; rw [Int.one_mul] at h_; exact h_
              have hji11y : (wrap64 (1 * 2 ^ min (ji9).toNat 64)) = ji11 := (i64_w _).symm.trans hji11_
              have hji11x : (ji9) ≤ 64 → (wrap64 (1 * 2 ^ (ji9).toNat)) = ji11 := fun h_ => (i64_w _).symm.trans (hji11z h_)
              by_cases c12 : (((Go.bits .and .i64 a1 (ji11)) != 0) == (decide (a2 > 0))) = true
              · rw [if_pos c12] at H
                have c12b0 : (((Go.bits .and .i64 a1 (ji11)) != 0) == (decide (a2 > 0))) = true := c12
                (try (have c12b1 : decide (((Go.bits .and .i64 a1 (ji11)) != 0) = (decide (a2 > 0))) = true := by simpa using c12))
                (try (have c12b2 : (((Go.bits .and .i64 a1 (ji11)) != 0) == (decide (a2 > 0))) = true := by simpa using c12))
                clear c12
                obtain rfl := Option.some.inj H
                go_wp2
                go_ret
                exact ⟨by first | rfl | (simp; done) | (simp only [← hji9, ← hji11] <;> (first | rfl | simp)) | (simp [*]; done), by repeat (first | exact Drawn0.refl _ | apply Drawn0.step)⟩
              · rw [if_neg c12] at H
                have c12b0 : (((Go.bits .and .i64 a1 (ji11)) != 0) == (decide (a2 > 0))) = false := by simpa using c12
                (try (have c12b1 : decide (((Go.bits .and .i64 a1 (ji11)) != 0) = (decide (a2 > 0))) = false := by simpa using c12))
                (try (have c12b2 : (((Go.bits .and .i64 a1 (ji11)) != 0) == (decide (a2 > 0))) = false := by simpa using c12))
                (try (have c12b3 : ¬ (((Go.bits .and .i64 a1 (ji11)) != 0) = (decide (a2 > 0))) := by simpa using c12))
                clear c12
                by_cases c13 : x7_3 > 1
                · rw [if_pos c13] at H
                  have c13b0 : decide (1 < x7_3) = true := decide_eq_true c13
                  clear c13
                  by_cases c14 : (Go.bits .and .i64 a1 ((ji11) / 2)) = 0
                  · rw [if_pos c14] at H
                    have c14b0 : ((Go.bits .and .i64 a1 ((ji11) / 2)) == 0) = true := beq_iff_eq.mpr c14
                    have c14b1 : ((Go.bits .and .i64 a1 ((ji11) / 2)) != 0) = false := bne_eq_false_iff_eq.mpr c14
                    clear c14
                    obtain rfl := Option.some.inj H
                    go_wp2
                    go_ret
                    exact ⟨by first | rfl | (simp; done) | (simp only [← hji9, ← hji11] <;> (first | rfl | simp)) | (simp [*]; done), by repeat (first | exact Drawn0.refl _ | apply Drawn0.step)⟩
                  · rw [if_neg c14] at H
                    have c14b0 : ((Go.bits .and .i64 a1 ((ji11) / 2)) == 0) = false := beq_eq_false_iff_ne.mpr c14
                    have c14b1 : ((Go.bits .and .i64 a1 ((ji11) / 2)) != 0) = true := bne_iff_ne.mpr c14
                    obtain rfl := Option.some.inj H
                    go_wp2
                    go_ret
                    exact ⟨by first | rfl | (simp; done) | (simp only [← hji9, ← hji11] <;> (first | rfl | simp)) | (simp [*]; done), by repeat (first | exact Drawn0.refl _ | apply Drawn0.step)⟩
                · rw [if_neg c13] at H
                  have c13b0 : decide (1 < x7_3) = false := decide_eq_false c13
                  clear c13
                  obtain rfl := Option.some.inj H
                  go_wp2
                  go_ret
                  exact ⟨by first | rfl | (simp; done) | (simp only [← hji9, ← hji11] <;> (first | rfl | simp)) | (simp [*]; done), by repeat (first | exact Drawn0.refl _ | apply Drawn0.step)⟩
            · rw [if_neg c10] at H
              exact absurd H (by simp)

/-! ### backstepref44_count: function 30 -/
def backstepref44_count.l0 : Nat → Int → Int → Option (Int)
  | 0, _, _ => none
  | k + 1, x0, x3 => if x0 > 0 then (backstepref44_count.l0 k (wrap64 (Int.tdiv x0 2)) (wrap64 (x3 + (Int.tmod x0 2)))) else (some x3)
def backstepref44_count.f (k : Nat) (a0 : Int) : Option (Int) := backstepref44_count.l0 k a0 0
theorem backstepref44_count.mono_l : ∀ k, (∀ y0 y1, LeO (backstepref44_count.l0 k y0 y1) (backstepref44_count.l0 (k + 1) y0 y1))
  | 0 => fun _ _ r h => by simp [backstepref44_count.l0] at h
  | k + 1 => by
    have ih0 := backstepref44_count.mono_l k
    · intro y0 y1
      unfold backstepref44_count.l0
      repeat' first
      | (with_reducible exact ih0 _ _)
      | (with_reducible exact LeO.refl _)
      | (with_reducible exact LeO.none _)
      | (with_reducible refine LeO.ite ?_ ?_)
      | (with_reducible refine LeO.bind ?_ (fun _ => ?_))
      | exact ih0 _ _
      | exact LeO.none _
      | refine LeO.ite ?_ ?_
      | refine LeO.bind ?_ (fun _ => ?_)
theorem backstepref44_count.mono : ∀ a0 k, LeO (backstepref44_count.f k a0) (backstepref44_count.f (k + 1) a0) := by
  intro a0 k
  have ih0 := backstepref44_count.mono_l k
  unfold backstepref44_count.f
  repeat' first
      | (with_reducible exact ih0 _ _)
      | (with_reducible exact LeO.refl _)
      | (with_reducible exact LeO.none _)
      | (with_reducible refine LeO.ite ?_ ?_)
      | (with_reducible refine LeO.bind ?_ (fun _ => ?_))
      | exact ih0 _ _
      | exact LeO.none _
      | refine LeO.ite ?_ ?_
      | refine LeO.bind ?_ (fun _ => ?_)
set_option maxHeartbeats 8000000 in
set_option maxRecDepth 100000 in
theorem backstepref44_count.calls (k : Nat) (a0 : Int) (r : Int) (w : World) (h : backstepref44_count.f k a0 = some r) :
    Calls Try.prog 30 #[.int .i64 a0] w fun e w' => e = .returned (.int .i64 r) ∧ Drawn0 w w' := by
  have H : (backstepref44_count.l0 k a0 0) = some r := h
  clear h
  have H' := Aside0.mk H
  clear H
  go_enter Try.func30, Try.ntmps30
  go_wp2
  go_loopg [0, 3] k (fun kq v0 v3 w' => ∃ (x0_1 : Int) (x3_1 : Int), v0 = .int .i64 x0_1 ∧ v3 = .int .i64 x3_1 ∧ Aside0 (backstepref44_count.l0 kq x0_1 x3_1 = some r) ∧ Aside0 (kq ≤ k) ∧ Drawn0 w w')
  case atStart => exact ⟨(a0), (0), (by first | rfl | (simp; done) | (simp [*]; done)), (by first | rfl | (simp; done) | (simp [*]; done)), H', ⟨Nat.le_refl _⟩, by repeat (first | exact Drawn0.refl _ | apply Drawn0.step)⟩
  case round =>
    clear H'
    obtain ⟨x0_1, x3_1, rfl, rfl, HA, HK1, ⟨m1, rfl⟩⟩ := hrel
    cases gk with
    | zero => exact absurd HA.out (by simp [backstepref44_count.l0])
    | succ k1 =>
      have H := HA.out
      clear HA
      simp only [backstepref44_count.l0] at H
      by_cases c2 : x0_1 > 0
      · rw [if_pos c2] at H
        have c2b0 : decide (0 < x0_1) = true := decide_eq_true c2
        clear c2
        have H' := Aside0.mk H
        clear H
        go_wp2
        go_roundg k1
        case measure => have := HK1.out; omega
        case rel => exact ⟨(wrap64 (Int.tdiv x0_1 2)), (wrap64 (x3_1 + (Int.tmod x0_1 2))), (by first | rfl | (simp; done) | (simp [*]; done)), (by first | rfl | (simp; done) | (simp [*]; done)), H', ⟨by have := HK1.out; omega⟩, by repeat (first | exact Drawn0.refl _ | apply Drawn0.step)⟩
      · rw [if_neg c2] at H
        have c2b0 : decide (0 < x0_1) = false := decide_eq_false c2
        clear c2
        obtain rfl := Option.some.inj H
        go_wp2
        go_ret
        exact ⟨by first | rfl | (simp; done) | (simp [*]; done), by repeat (first | exact Drawn0.refl _ | apply Drawn0.step)⟩

end Go.Proofs.Ytpkamififbhheaa.PAll
