-- LAID BY A PROGRAM (wip/tprint.py) out of the translation. Nothing here is trusted.
import Derived.Test.YtpkamififbhheaaPAllx0
import Derived.Test.YtpkamififbhheaaPAlly2
namespace Go.Proofs.Ytpkamififbhheaa.PAll
open Go.RowKit Go.Proofs.YtpkamififbhheaaW.PrintWords Go.Proofs.YtpkamififbhheaaW.PrintLast Go.Proofs.YtpkamififbhheaaW.PrintMore
attribute [local go_sem] max2_int min2_int max_two min_two max_three min_three max_four min_four   -- for this text's walks alone
set_option linter.unusedVariables false
set_option linter.unusedSimpArgs false

theorem len_pos_ {j : Int} {n : Nat} (p : 0 ≤ j) (q : j < ((n : Int) : Int)) : 0 < n := by omega

/-! ### backstepref44_Best: function 16 -/
mutual
def backstepref44_Best.j0 : Nat → Int → Int → Bool → Option (List Int × Bool)
  | 0, _, _, _ => none
  | k + 1, x0, x1, x27 => if x27 = true then (some (([] : List Int), false)) else (if 0 ≤ x0 then (if 0 ≤ (shl .i64 1 x0) then (if (shl .i64 1 x0 : Int).toNat ≤ 35184372088832 then (backstepref44_Best.l0 k x0 x1 (List.replicate (shl .i64 1 x0 : Int).toNat 0) 0) else (none)) else (none)) else (none))
def backstepref44_Best.l0 : Nat → Int → Int → List Int → Int → Option (List Int × Bool)
  | 0, _, _, _, _ => none
  | k + 1, x0, x1, x6, x7 => if x7 < (x6.length : Int) then (if 0 ≤ x7 then (backstepref44_Best.l0 k x0 x1 (x6.set (x7 : Int).toNat (-1)) (wrap64 (x7 + 1))) else (none)) else (if 0 ≤ (wrap64 (x0 - 1)) then (if 0 ≤ (shl .i64 1 (wrap64 (x0 - 1))) then (if (shl .i64 1 (wrap64 (x0 - 1))) < (x6.length : Int) then (backstepref44_Best.l1 k x0 x1 (x6.set ((shl .i64 1 (wrap64 (x0 - 1))) : Int).toNat 0) (shl .i64 1 (wrap64 (x0 - 1))) (([shl .i64 1 (wrap64 (x0 - 1))] : List Int))) else (none)) else (none)) else (none))
def backstepref44_Best.l1 : Nat → Int → Int → List Int → Int → List Int → Option (List Int × Bool)
  | 0, _, _, _, _, _ => none
  | k + 1, x0, x1, x6, x8, x9 => if (x9.length : Int) > 0 then (backstepref44_Best.l2 k x0 x1 x6 x8 x9 ([] : List Int) 0) else (if 0 < (x6.length : Int) then (if (rd x6 0) < 0 then (some (([] : List Int), false)) else (backstepref44_Best.l4 k x0 x6 x8 ([] : List Int) 0)) else (none))
def backstepref44_Best.l2 : Nat → Int → Int → List Int → Int → List Int → List Int → Int → Option (List Int × Bool)
  | 0, _, _, _, _, _, _, _ => none
  | k + 1, x0, x1, x6, x8, x9, x10, x11 => if x11 < (x9.length : Int) then (backstepref44_Best.l3 k x0 x1 x6 x8 x9 x10 x11 (wrap64 (-x0))) else (backstepref44_Best.l1 k x0 x1 x6 x8 x10)
def backstepref44_Best.l3 : Nat → Int → Int → List Int → Int → List Int → List Int → Int → Int → Option (List Int × Bool)
  | 0, _, _, _, _, _, _, _, _ => none
  | k + 1, x0, x1, x6, x8, x9, x10, x11, x12 => if x12 ≤ x0 then (if 0 ≤ x11 then (if x11 < (x9.length : Int) then ((backstepref44_after.f k x0 (rd x9 x11) x12).bind fun t134 => (if t134 ≥ 0 then (if 0 ≤ t134 then (if t134 < (x6.length : Int) then (if (rd x6 t134) < 0 then ((backstepref44_count.f k t134).bind fun t136 => (if t136 ≤ x1 then (if 0 ≤ (rd x9 x11) then (if (rd x9 x11) < (x6.length : Int) then (if x10.length < 17592186044416 then (backstepref44_Best.l3 k x0 x1 (x6.set (t134 : Int).toNat (wrap64 ((rd x6 (rd x9 x11)) + 1))) x8 x9 (x10 ++ [t134]) x11 (wrap64 (x12 + 1))) else (none)) else (none)) else (none)) else (backstepref44_Best.l3 k x0 x1 x6 x8 x9 x10 x11 (wrap64 (x12 + 1))))) else (backstepref44_Best.l3 k x0 x1 x6 x8 x9 x10 x11 (wrap64 (x12 + 1)))) else (none)) else (none)) else (backstepref44_Best.l3 k x0 x1 x6 x8 x9 x10 x11 (wrap64 (x12 + 1))))) else (none)) else (none)) else (backstepref44_Best.l2 k x0 x1 x6 x8 x9 x10 (wrap64 (x11 + 1)))
def backstepref44_Best.l4 : Nat → Int → List Int → Int → List Int → Int → Option (List Int × Bool)
  | 0, _, _, _, _, _ => none
  | k + 1, x0, x6, x8, x14, x15 => if x15 = x8 then (some (x14, true)) else (backstepref44_Best.l5 k x0 x6 x8 x14 x15 (wrap64 (-x0)))
def backstepref44_Best.l5 : Nat → Int → List Int → Int → List Int → Int → Int → Option (List Int × Bool)
  | 0, _, _, _, _, _, _ => none
  | k + 1, x0, x6, x8, x14, x15, x16 => if x16 ≤ x0 then ((backstepref44_after.f k x0 x15 x16).bind fun t144 => (if t144 ≥ 0 then (if 0 ≤ t144 then (if t144 < (x6.length : Int) then (if (rd x6 t144) ≥ 0 then (if 0 ≤ x15 then (if x15 < (x6.length : Int) then (if (rd x6 t144) = (wrap64 ((rd x6 x15) - 1)) then (if x14.length < 17592186044416 then (backstepref44_Best.l4 k x0 x6 x8 (x14 ++ [x16]) t144) else (none)) else (backstepref44_Best.l5 k x0 x6 x8 x14 x15 (wrap64 (x16 + 1)))) else (none)) else (none)) else (backstepref44_Best.l5 k x0 x6 x8 x14 x15 (wrap64 (x16 + 1)))) else (none)) else (none)) else (backstepref44_Best.l5 k x0 x6 x8 x14 x15 (wrap64 (x16 + 1))))) else (backstepref44_Best.l4 k x0 x6 x8 x14 x15)
end
def backstepref44_Best.f (k : Nat) (a0 : Int) (a1 : Int) : Option (List Int × Bool) := if a0 < 1 then (backstepref44_Best.j0 k a0 a1 true) else (if a0 > 12 then (backstepref44_Best.j0 k a0 a1 true) else (backstepref44_Best.j0 k a0 a1 (decide (a1 < 1))))
theorem backstepref44_Best.mono_l : ∀ k, (∀ y0 y1 y2, LeO (backstepref44_Best.j0 k y0 y1 y2) (backstepref44_Best.j0 (k + 1) y0 y1 y2)) ∧ (∀ y0 y1 y2 y3, LeO (backstepref44_Best.l0 k y0 y1 y2 y3) (backstepref44_Best.l0 (k + 1) y0 y1 y2 y3)) ∧ (∀ y0 y1 y2 y3 y4, LeO (backstepref44_Best.l1 k y0 y1 y2 y3 y4) (backstepref44_Best.l1 (k + 1) y0 y1 y2 y3 y4)) ∧ (∀ y0 y1 y2 y3 y4 y5 y6, LeO (backstepref44_Best.l2 k y0 y1 y2 y3 y4 y5 y6) (backstepref44_Best.l2 (k + 1) y0 y1 y2 y3 y4 y5 y6)) ∧ (∀ y0 y1 y2 y3 y4 y5 y6 y7, LeO (backstepref44_Best.l3 k y0 y1 y2 y3 y4 y5 y6 y7) (backstepref44_Best.l3 (k + 1) y0 y1 y2 y3 y4 y5 y6 y7)) ∧ (∀ y0 y1 y2 y3 y4, LeO (backstepref44_Best.l4 k y0 y1 y2 y3 y4) (backstepref44_Best.l4 (k + 1) y0 y1 y2 y3 y4)) ∧ (∀ y0 y1 y2 y3 y4 y5, LeO (backstepref44_Best.l5 k y0 y1 y2 y3 y4 y5) (backstepref44_Best.l5 (k + 1) y0 y1 y2 y3 y4 y5))
  | 0 => ⟨fun _ _ _ r h => by simp [backstepref44_Best.j0] at h, fun _ _ _ _ r h => by simp [backstepref44_Best.l0] at h, fun _ _ _ _ _ r h => by simp [backstepref44_Best.l1] at h, fun _ _ _ _ _ _ _ r h => by simp [backstepref44_Best.l2] at h, fun _ _ _ _ _ _ _ _ r h => by simp [backstepref44_Best.l3] at h, fun _ _ _ _ _ r h => by simp [backstepref44_Best.l4] at h, fun _ _ _ _ _ _ r h => by simp [backstepref44_Best.l5] at h⟩
  | k + 1 => by
    obtain ⟨ih0, ih1, ih2, ih3, ih4, ih5, ih6⟩ := backstepref44_Best.mono_l k
    refine ⟨?_, ?_, ?_, ?_, ?_, ?_, ?_⟩
    · intro y0 y1 y2
      unfold backstepref44_Best.j0
      repeat' first
      | (with_reducible exact ih0 _ _ _)
      | (with_reducible exact ih1 _ _ _ _)
      | (with_reducible exact ih2 _ _ _ _ _)
      | (with_reducible exact ih3 _ _ _ _ _ _ _)
      | (with_reducible exact ih4 _ _ _ _ _ _ _ _)
      | (with_reducible exact ih5 _ _ _ _ _)
      | (with_reducible exact ih6 _ _ _ _ _ _)
      | (with_reducible exact backstepref44_after.mono _ _ _ _)
      | (with_reducible exact backstepref44_count.mono _ _)
      | (with_reducible exact LeO.refl _)
      | (with_reducible exact LeO.none _)
      | (with_reducible refine LeO.ite ?_ ?_)
      | (with_reducible refine LeO.bind ?_ (fun _ => ?_))
      | exact ih0 _ _ _
      | exact ih1 _ _ _ _
      | exact ih2 _ _ _ _ _
      | exact ih3 _ _ _ _ _ _ _
      | exact ih4 _ _ _ _ _ _ _ _
      | exact ih5 _ _ _ _ _
      | exact ih6 _ _ _ _ _ _
      | exact backstepref44_after.mono _ _ _ _
      | exact backstepref44_count.mono _ _
      | exact LeO.none _
      | refine LeO.ite ?_ ?_
      | refine LeO.bind ?_ (fun _ => ?_)
    · intro y0 y1 y2 y3
      unfold backstepref44_Best.l0
      repeat' first
      | (with_reducible exact ih0 _ _ _)
      | (with_reducible exact ih1 _ _ _ _)
      | (with_reducible exact ih2 _ _ _ _ _)
      | (with_reducible exact ih3 _ _ _ _ _ _ _)
      | (with_reducible exact ih4 _ _ _ _ _ _ _ _)
      | (with_reducible exact ih5 _ _ _ _ _)
      | (with_reducible exact ih6 _ _ _ _ _ _)
      | (with_reducible exact backstepref44_after.mono _ _ _ _)
      | (with_reducible exact backstepref44_count.mono _ _)
      | (with_reducible exact LeO.refl _)
      | (with_reducible exact LeO.none _)
      | (with_reducible refine LeO.ite ?_ ?_)
      | (with_reducible refine LeO.bind ?_ (fun _ => ?_))
      | exact ih0 _ _ _
      | exact ih1 _ _ _ _
      | exact ih2 _ _ _ _ _
      | exact ih3 _ _ _ _ _ _ _
      | exact ih4 _ _ _ _ _ _ _ _
      | exact ih5 _ _ _ _ _
      | exact ih6 _ _ _ _ _ _
      | exact backstepref44_after.mono _ _ _ _
      | exact backstepref44_count.mono _ _
      | exact LeO.none _
      | refine LeO.ite ?_ ?_
      | refine LeO.bind ?_ (fun _ => ?_)
    · intro y0 y1 y2 y3 y4
      unfold backstepref44_Best.l1
      repeat' first
      | (with_reducible exact ih0 _ _ _)
      | (with_reducible exact ih1 _ _ _ _)
      | (with_reducible exact ih2 _ _ _ _ _)
      | (with_reducible exact ih3 _ _ _ _ _ _ _)
      | (with_reducible exact ih4 _ _ _ _ _ _ _ _)
      | (with_reducible exact ih5 _ _ _ _ _)
      | (with_reducible exact ih6 _ _ _ _ _ _)
      | (with_reducible exact backstepref44_after.mono _ _ _ _)
      | (with_reducible exact backstepref44_count.mono _ _)
      | (with_reducible exact LeO.refl _)
      | (with_reducible exact LeO.none _)
      | (with_reducible refine LeO.ite ?_ ?_)
      | (with_reducible refine LeO.bind ?_ (fun _ => ?_))
      | exact ih0 _ _ _
      | exact ih1 _ _ _ _
      | exact ih2 _ _ _ _ _
      | exact ih3 _ _ _ _ _ _ _
      | exact ih4 _ _ _ _ _ _ _ _
      | exact ih5 _ _ _ _ _
      | exact ih6 _ _ _ _ _ _
      | exact backstepref44_after.mono _ _ _ _
      | exact backstepref44_count.mono _ _
      | exact LeO.none _
      | refine LeO.ite ?_ ?_
      | refine LeO.bind ?_ (fun _ => ?_)
    · intro y0 y1 y2 y3 y4 y5 y6
      unfold backstepref44_Best.l2
      repeat' first
      | (with_reducible exact ih0 _ _ _)
      | (with_reducible exact ih1 _ _ _ _)
      | (with_reducible exact ih2 _ _ _ _ _)
      | (with_reducible exact ih3 _ _ _ _ _ _ _)
      | (with_reducible exact ih4 _ _ _ _ _ _ _ _)
      | (with_reducible exact ih5 _ _ _ _ _)
      | (with_reducible exact ih6 _ _ _ _ _ _)
      | (with_reducible exact backstepref44_after.mono _ _ _ _)
      | (with_reducible exact backstepref44_count.mono _ _)
      | (with_reducible exact LeO.refl _)
      | (with_reducible exact LeO.none _)
      | (with_reducible refine LeO.ite ?_ ?_)
      | (with_reducible refine LeO.bind ?_ (fun _ => ?_))
      | exact ih0 _ _ _
      | exact ih1 _ _ _ _
      | exact ih2 _ _ _ _ _
      | exact ih3 _ _ _ _ _ _ _
      | exact ih4 _ _ _ _ _ _ _ _
      | exact ih5 _ _ _ _ _
      | exact ih6 _ _ _ _ _ _
      | exact backstepref44_after.mono _ _ _ _
      | exact backstepref44_count.mono _ _
      | exact LeO.none _
      | refine LeO.ite ?_ ?_
      | refine LeO.bind ?_ (fun _ => ?_)
    · intro y0 y1 y2 y3 y4 y5 y6 y7
      unfold backstepref44_Best.l3
      repeat' first
      | (with_reducible exact ih0 _ _ _)
      | (with_reducible exact ih1 _ _ _ _)
      | (with_reducible exact ih2 _ _ _ _ _)
      | (with_reducible exact ih3 _ _ _ _ _ _ _)
      | (with_reducible exact ih4 _ _ _ _ _ _ _ _)
      | (with_reducible exact ih5 _ _ _ _ _)
      | (with_reducible exact ih6 _ _ _ _ _ _)
      | (with_reducible exact backstepref44_after.mono _ _ _ _)
      | (with_reducible exact backstepref44_count.mono _ _)
      | (with_reducible exact LeO.refl _)
      | (with_reducible exact LeO.none _)
      | (with_reducible refine LeO.ite ?_ ?_)
      | (with_reducible refine LeO.bind ?_ (fun _ => ?_))
      | exact ih0 _ _ _
      | exact ih1 _ _ _ _
      | exact ih2 _ _ _ _ _
      | exact ih3 _ _ _ _ _ _ _
      | exact ih4 _ _ _ _ _ _ _ _
      | exact ih5 _ _ _ _ _
      | exact ih6 _ _ _ _ _ _
      | exact backstepref44_after.mono _ _ _ _
      | exact backstepref44_count.mono _ _
      | exact LeO.none _
      | refine LeO.ite ?_ ?_
      | refine LeO.bind ?_ (fun _ => ?_)
    · intro y0 y1 y2 y3 y4
      unfold backstepref44_Best.l4
      repeat' first
      | (with_reducible exact ih0 _ _ _)
      | (with_reducible exact ih1 _ _ _ _)
      | (with_reducible exact ih2 _ _ _ _ _)
      | (with_reducible exact ih3 _ _ _ _ _ _ _)
      | (with_reducible exact ih4 _ _ _ _ _ _ _ _)
      | (with_reducible exact ih5 _ _ _ _ _)
      | (with_reducible exact ih6 _ _ _ _ _ _)
      | (with_reducible exact backstepref44_after.mono _ _ _ _)
      | (with_reducible exact backstepref44_count.mono _ _)
      | (with_reducible exact LeO.refl _)
      | (with_reducible exact LeO.none _)
      | (with_reducible refine LeO.ite ?_ ?_)
      | (with_reducible refine LeO.bind ?_ (fun _ => ?_))
      | exact ih0 _ _ _
      | exact ih1 _ _ _ _
      | exact ih2 _ _ _ _ _
      | exact ih3 _ _ _ _ _ _ _
      | exact ih4 _ _ _ _ _ _ _ _
      | exact ih5 _ _ _ _ _
      | exact ih6 _ _ _ _ _ _
      | exact backstepref44_after.mono _ _ _ _
      | exact backstepref44_count.mono _ _
      | exact LeO.none _
      | refine LeO.ite ?_ ?_
      | refine LeO.bind ?_ (fun _ => ?_)
    · intro y0 y1 y2 y3 y4 y5
      unfold backstepref44_Best.l5
      repeat' first
      | (with_reducible exact ih0 _ _ _)
      | (with_reducible exact ih1 _ _ _ _)
      | (with_reducible exact ih2 _ _ _ _ _)
      | (with_reducible exact ih3 _ _ _ _ _ _ _)
      | (with_reducible exact ih4 _ _ _ _ _ _ _ _)
      | (with_reducible exact ih5 _ _ _ _ _)
      | (with_reducible exact ih6 _ _ _ _ _ _)
      | (with_reducible exact backstepref44_after.mono _ _ _ _)
      | (with_reducible exact backstepref44_count.mono _ _)
      | (with_reducible exact LeO.refl _)
      | (with_reducible exact LeO.none _)
      | (with_reducible refine LeO.ite ?_ ?_)
      | (with_reducible refine LeO.bind ?_ (fun _ => ?_))
      | exact ih0 _ _ _
      | exact ih1 _ _ _ _
      | exact ih2 _ _ _ _ _
      | exact ih3 _ _ _ _ _ _ _
      | exact ih4 _ _ _ _ _ _ _ _
      | exact ih5 _ _ _ _ _
      | exact ih6 _ _ _ _ _ _
      | exact backstepref44_after.mono _ _ _ _
      | exact backstepref44_count.mono _ _
      | exact LeO.none _
      | refine LeO.ite ?_ ?_
      | refine LeO.bind ?_ (fun _ => ?_)
theorem backstepref44_Best.mono : ∀ a0 a1 k, LeO (backstepref44_Best.f k a0 a1) (backstepref44_Best.f (k + 1) a0 a1) := by
  intro a0 a1 k
  obtain ⟨ih0, ih1, ih2, ih3, ih4, ih5, ih6⟩ := backstepref44_Best.mono_l k
  unfold backstepref44_Best.f
  repeat' first
      | (with_reducible exact ih0 _ _ _)
      | (with_reducible exact ih1 _ _ _ _)
      | (with_reducible exact ih2 _ _ _ _ _)
      | (with_reducible exact ih3 _ _ _ _ _ _ _)
      | (with_reducible exact ih4 _ _ _ _ _ _ _ _)
      | (with_reducible exact ih5 _ _ _ _ _)
      | (with_reducible exact ih6 _ _ _ _ _ _)
      | (with_reducible exact backstepref44_after.mono _ _ _ _)
      | (with_reducible exact backstepref44_count.mono _ _)
      | (with_reducible exact LeO.refl _)
      | (with_reducible exact LeO.none _)
      | (with_reducible refine LeO.ite ?_ ?_)
      | (with_reducible refine LeO.bind ?_ (fun _ => ?_))
      | exact ih0 _ _ _
      | exact ih1 _ _ _ _
      | exact ih2 _ _ _ _ _
      | exact ih3 _ _ _ _ _ _ _
      | exact ih4 _ _ _ _ _ _ _ _
      | exact ih5 _ _ _ _ _
      | exact ih6 _ _ _ _ _ _
      | exact backstepref44_after.mono _ _ _ _
      | exact backstepref44_count.mono _ _
      | exact LeO.none _
      | refine LeO.ite ?_ ?_
      | refine LeO.bind ?_ (fun _ => ?_)
set_option maxHeartbeats 8000000 in
set_option maxRecDepth 100000 in
theorem backstepref44_Best.calls (k : Nat) (a0 : Int) (a1 : Int) (r1 : List Int) (r2 : Bool) (w : World) (h : backstepref44_Best.f k a0 a1 = some (r1, r2)) :
    Calls Try.prog 16 #[.int .i64 a0, .int .i64 a1] w fun e w' => ∃ v0_ : Value, e = .returned (.tuple #[v0_, .bool r2]) ∧ Kd.R (Kd.int .i64) 3 w' w.heap.size (fun _ => True) v0_ r1 ∧ Below w.heap.size w w' := by
  have HB := Aside0.mk (Below.refl w.heap.size w)
  have H : (if a0 < 1 then (backstepref44_Best.j0 k a0 a1 true) else (if a0 > 12 then (backstepref44_Best.j0 k a0 a1 true) else (backstepref44_Best.j0 k a0 a1 (decide (a1 < 1))))) = some (r1, r2) := h
  clear h
  have HC3 := Aside0.mk H
  clear H
  go_enter Try.func16, Try.ntmps16
  go_upto_region 1 with (fail)
  repeat (go_quiet (fail); go_upto_region 1 with (fail))
  go_cut [27] (fun v27 wc => ∃ (kq : Nat) (x27_2 : Bool), v27 = .bool x27_2 ∧ Aside0 (backstepref44_Best.j0 kq a0 a1 x27_2 = some (r1, r2)) ∧ Aside0 (kq ≤ k) ∧ Aside0 (Below w.heap.size w wc))
  case first =>
    have H := HC3.out
    clear HC3
    by_cases c4 : a0 < 1
    · rw [if_pos c4] at H
      have c4b0 : decide (a0 < 1) = true := decide_eq_true c4
      clear c4
      (first | rw [c4b0] | (simp only [i64_w, i32_w]; rw [c4b0]) | skip)
      have H' := Aside0.mk H
      clear H
      go_wp2
      repeat (go_quiet (fail); try go_wp2)
      go_meet
      case rel => exact ⟨_, (true), (by first | rfl | (simp; done) | (simp [*]; done)), H', ⟨by first | omega | exact Nat.le_refl _⟩, ⟨by repeat (first | (with_reducible first | exact HB.out | apply below_alloc | apply pw_below_drewN | apply below_drew1) | exact HB.out)⟩⟩
    · rw [if_neg c4] at H
      have c4b0 : decide (a0 < 1) = false := decide_eq_false c4
      clear c4
      (first | rw [c4b0] | (simp only [i64_w, i32_w]; rw [c4b0]) | skip)
      by_cases c5 : a0 > 12
      · rw [if_pos c5] at H
        have c5b0 : decide (12 < a0) = true := decide_eq_true c5
        clear c5
        have H' := Aside0.mk H
        clear H
        go_wp2
        repeat (go_quiet (fail); try go_wp2)
        go_meet
        case rel => exact ⟨_, (true), (by first | rfl | (simp; done) | (simp [*]; done)), H', ⟨by first | omega | exact Nat.le_refl _⟩, ⟨by repeat (first | (with_reducible first | exact HB.out | apply below_alloc | apply pw_below_drewN | apply below_drew1) | exact HB.out)⟩⟩
      · rw [if_neg c5] at H
        have c5b0 : decide (12 < a0) = false := decide_eq_false c5
        clear c5
        have H' := Aside0.mk H
        clear H
        go_wp2
        repeat (go_quiet (fail); try go_wp2)
        go_meet
        case rel => exact ⟨_, (decide (a1 < 1)), (by first | rfl | (simp; done) | (simp [*]; done)), H', ⟨by first | omega | exact Nat.le_refl _⟩, ⟨by repeat (first | (with_reducible first | exact HB.out | apply below_alloc | apply pw_below_drewN | apply below_drew1) | exact HB.out)⟩⟩
  case rest =>
    clear HC3
    try clear c1
    try clear p2
    try clear c4
    try clear c4b0
    try clear c5
    try clear c5b0
    obtain ⟨kq, x27_2, rfl, HA, HJ2, HB⟩ := hcut
    cases kq with
    | zero => exact absurd HA.out (by simp [backstepref44_Best.j0])
    | succ kj2 =>
      have H := HA.out
      clear HA
      simp only [backstepref44_Best.j0] at H
      by_cases c6 : x27_2 = true
      · subst c6
        have H1 : (some (([] : List Int), false)) = some (r1, r2) := by rw [if_pos rfl] at H; exact H
        clear H
        have H := H1
        clear H1
        simp only [Option.some.injEq, Prod.mk.injEq] at H
        obtain ⟨rfl, rfl⟩ := H
        go_wp2
        repeat (go_quiet (fail); try go_wp2)
        go_ret2
        exact ⟨_, by first | rfl | (simp [errW_none, errW_some] <;> rfl) | (simp [*, errW_none, errW_some] <;> rfl), by first | exact Kd.R_nil _ _ _ _ _ | exact Kd.N_nil _ _ _ _ _ | exact Kd.V_nil _ _ _ _ _ | exact Kd.Q_nil _ _ _ _ _ | exact Kd.S_nil _ _ _ _ _, by repeat (first | (with_reducible first | exact HB.out | apply below_alloc | apply pw_below_drewN | apply below_drew1) | exact HB.out)⟩
      · replace c6 := Bool.eq_false_iff.mpr c6
        subst c6
        have H1 : (if 0 ≤ a0 then (if 0 ≤ (shl .i64 1 a0) then (if (shl .i64 1 a0 : Int).toNat ≤ 35184372088832 then (backstepref44_Best.l0 kj2 a0 a1 (List.replicate (shl .i64 1 a0 : Int).toNat 0) 0) else (none)) else (none)) else (none)) = some (r1, r2) := by rw [if_neg (show ¬ (false = true) by decide)] at H; exact H
        clear H
        have H := H1
        clear H1
        by_cases c7 : 0 ≤ a0
        · rw [if_pos c7] at H
          have c7b0 := eq_true c7
          have c7b1 : decide (0 ≤ a0) = true := decide_eq_true c7
          clear c7
          obtain ⟨ji8, hji8⟩ : ∃ j_ : Int, (shl .i64 1 a0) = j_ := ⟨_, rfl⟩
          replace H : (if 0 ≤ (ji8) then (if (ji8 : Int).toNat ≤ 35184372088832 then (backstepref44_Best.l0 kj2 a0 a1 (List.replicate (ji8 : Int).toNat 0) 0) else (none)) else (none)) = some (r1, r2) := by first | (rw [hji8] at H; exact H) | (simp only [hji8] at H ⊢; exact H)
          have hji8_ : (IntKind.i64.wrap (1 * 2 ^ min a0.toNat 64)) = ji8 := hji8
          have hji8z : a0 ≤ 64 → (IntKind.i64.wrap (1 * 2 ^ a0.toNat)) = ji8 := shl_small hji8
          have hji8u : (IntKind.i64.wrap (2 ^ min a0.toNat 64)) = ji8 := by have h_ := hji8_; rw [Int.one_mul] at h_; exact h_
          have hji8v : a0 ≤ 64 → (IntKind.i64.wrap (2 ^ a0.toNat)) = ji8 := fun hle_ => by have h_ := hji8z hle_; rw [Int.one_mul] at h_; exact h_
          have hji8y : (wrap64 (1 * 2 ^ min a0.toNat 64)) = ji8 := (i64_w _).symm.trans hji8_
          have hji8x : a0 ≤ 64 → (wrap64 (1 * 2 ^ a0.toNat)) = ji8 := fun h_ => (i64_w _).symm.trans (hji8z h_)
          by_cases c9 : 0 ≤ (ji8)
          · rw [if_pos c9] at H
            have c9b0 := eq_true c9
            have c9b1 : decide (0 ≤ (ji8)) = true := decide_eq_true c9
            clear c9
            by_cases c10 : (ji8 : Int).toNat ≤ 35184372088832
            · rw [if_pos c10] at H
              have c10b0 := eq_true c10
              have c10b1 : decide ((ji8 : Int).toNat ≤ 35184372088832) = true := decide_eq_true c10
              clear c10
              obtain ⟨y125, hy125⟩ : ∃ y_ : List Int, y_ = (List.replicate (ji8 : Int).toNat 0) := ⟨_, rfl⟩
              replace H : (backstepref44_Best.l0 kj2 a0 a1 y125 0) = some (r1, r2) := by first | (rw [hy125]; with_reducible exact H) | (have H2_ := (Option.bind_some _ _).symm.trans H; rw [hy125]; with_reducible exact H2_) | (have H2_ := (Option.bind_some _ _).symm.trans H; with_reducible exact H2_) | with_reducible exact H | (rw [hy125]; exact H) | exact H
              have Ny125 := Aside0.mk hy125
              clear hy125
              have H' := Aside0.mk H
              clear H
              go_wp2_with (first | ((with_reducible refine gate_dst (N := 30) rfl ?_); refine Kd.R_make (Kd.int .i64) _ 3 rfl (N := 30) rfl 23 _ _ rfl ji8 rfl rfl Try.underlying23 (.int .i64 0) 8 info3 rfl (by decide) (by omega) 0 (ok := fun _ => True) (okp := fun _ => True) rfl (fun _ hk => hk) trivial (of_decide_eq_true (by first | (with_reducible assumption) | assumption)) (Nat.le_trans (Nat.mul_le_mul_right _ (of_decide_eq_true (by first | (with_reducible assumption) | assumption) : ji8.toNat ≤ 35184372088832)) (by omega)) (Below.refl _ _) (Nat.le_refl _) ?_; intro v126 w11 ho12 hb hg_ hnew_; clear hg_ hnew_; (first | rw [← Ny125.out] at ho12 | (simp only [Int.reduceToNat] at ho12; rw [← Ny125.out] at ho12)); have n0_ := Aside0.mk (Kd.R_lower ho12 (below_size (by repeat (first | (with_reducible first | exact HB.out | apply below_alloc | apply pw_below_drewN | apply below_drew1) | exact HB.out)))); have n1_ := Aside0.mk (below_step (by repeat (first | (with_reducible first | exact HB.out | apply below_alloc | apply pw_below_drewN | apply below_drew1) | exact HB.out)) hb); clear HB; have HO127 := n0_; have HB := n1_; clear n0_ n1_; clear hb ho12))
              repeat (go_quiet (first | ((with_reducible refine gate_dst (N := 30) rfl ?_); refine Kd.R_make (Kd.int .i64) _ 3 rfl (N := 30) rfl 23 _ _ rfl ji8 rfl rfl Try.underlying23 (.int .i64 0) 8 info3 rfl (by decide) (by omega) 0 (ok := fun _ => True) (okp := fun _ => True) rfl (fun _ hk => hk) trivial (of_decide_eq_true (by first | (with_reducible assumption) | assumption)) (Nat.le_trans (Nat.mul_le_mul_right _ (of_decide_eq_true (by first | (with_reducible assumption) | assumption) : ji8.toNat ≤ 35184372088832)) (by omega)) (Below.refl _ _) (Nat.le_refl _) ?_; intro v126 w11 ho12 hb hg_ hnew_; clear hg_ hnew_; (first | rw [← Ny125.out] at ho12 | (simp only [Int.reduceToNat] at ho12; rw [← Ny125.out] at ho12)); have n0_ := Aside0.mk (Kd.R_lower ho12 (below_size (by repeat (first | (with_reducible first | exact HB.out | apply below_alloc | apply pw_below_drewN | apply below_drew1) | exact HB.out)))); have n1_ := Aside0.mk (below_step (by repeat (first | (with_reducible first | exact HB.out | apply below_alloc | apply pw_below_drewN | apply below_drew1) | exact HB.out)) hb); clear HB; have HO127 := n0_; have HB := n1_; clear n0_ n1_; clear hb ho12)); try go_wp2_with (first | ((with_reducible refine gate_dst (N := 30) rfl ?_); refine Kd.R_make (Kd.int .i64) _ 3 rfl (N := 30) rfl 23 _ _ rfl ji8 rfl rfl Try.underlying23 (.int .i64 0) 8 info3 rfl (by decide) (by omega) 0 (ok := fun _ => True) (okp := fun _ => True) rfl (fun _ hk => hk) trivial (of_decide_eq_true (by first | (with_reducible assumption) | assumption)) (Nat.le_trans (Nat.mul_le_mul_right _ (of_decide_eq_true (by first | (with_reducible assumption) | assumption) : ji8.toNat ≤ 35184372088832)) (by omega)) (Below.refl _ _) (Nat.le_refl _) ?_; intro v126 w11 ho12 hb hg_ hnew_; clear hg_ hnew_; (first | rw [← Ny125.out] at ho12 | (simp only [Int.reduceToNat] at ho12; rw [← Ny125.out] at ho12)); have n0_ := Aside0.mk (Kd.R_lower ho12 (below_size (by repeat (first | (with_reducible first | exact HB.out | apply below_alloc | apply pw_below_drewN | apply below_drew1) | exact HB.out)))); have n1_ := Aside0.mk (below_step (by repeat (first | (with_reducible first | exact HB.out | apply below_alloc | apply pw_below_drewN | apply below_drew1) | exact HB.out)) hb); clear HB; have HO127 := n0_; have HB := n1_; clear n0_ n1_; clear hb ho12)))
              go_loopg [7] kj2 (fun kq v7 w' => ∃ (x6_2 : List Int) (x7_2 : Int), v7 = .int .i64 x7_2 ∧ Aside0 (backstepref44_Best.l0 kq a0 a1 x6_2 x7_2 = some (r1, r2)) ∧ Aside0 (kq ≤ kj2) ∧ Aside0 (Kd.R (Kd.int .i64) 3 w' w.heap.size (fun _ => True) v126 x6_2) ∧ Aside0 (Below w.heap.size w w'))
              case atStart => exact ⟨(y125), (0), (by first | rfl | (simp; done) | (simp [*]; done)), H', ⟨Nat.le_refl _⟩, ⟨by (with_reducible repeat (first | apply Kd.R_alloc | apply Kd.R_drewN | apply Kd.R_drew)); exact HO127.out⟩, ⟨by repeat (first | (with_reducible first | exact HB.out | apply below_alloc | apply pw_below_drewN | apply below_drew1) | exact HB.out)⟩⟩
              case round =>
                as_aux_lemma =>
                  clear H'
                  try clear c1
                  try clear p2
                  try clear c4
                  try clear c4b0
                  try clear c5
                  try clear c5b0
                  try clear c6
                  try clear p6
                  try clear c7
                  try clear c7b0
                  try clear c7b1
                  try clear c9
                  try clear c9b0
                  try clear c9b1
                  try clear c10
                  try clear c10b0
                  try clear c10b1
                  try clear p2
                  obtain ⟨x6_2, x7_2, rfl, HA, HK2, HO_6, HB⟩ := hrel
                  cases gk with
                  | zero => exact absurd HA.out (by simp [backstepref44_Best.l0])
                  | succ k2 =>
                    have H := HA.out
                    clear HA
                    simp only [backstepref44_Best.l0] at H
                    by_cases c13 : x7_2 < (x6_2.length : Int)
                    · rw [if_pos c13] at H
                      have c13b0 : decide (x7_2 < (x6_2.length : Int)) = true := decide_eq_true c13
                      clear c13
                      by_cases c14 : 0 ≤ x7_2
                      · rw [if_pos c14] at H
                        have c14b0 : decide (0 ≤ x7_2) = true := decide_eq_true c14
                        clear c14
                        obtain ⟨y128, hy128⟩ : ∃ y_ : List Int, y_ = (x6_2.set (x7_2 : Int).toNat (-1)) := ⟨_, rfl⟩
                        replace H : (backstepref44_Best.l0 k2 a0 a1 y128 (wrap64 (x7_2 + 1))) = some (r1, r2) := by first | (rw [hy128]; with_reducible exact H) | (have H2_ := (Option.bind_some _ _).symm.trans H; rw [hy128]; with_reducible exact H2_) | (have H2_ := (Option.bind_some _ _).symm.trans H; with_reducible exact H2_) | with_reducible exact H | (rw [hy128]; exact H) | exact H
                        have Ny128 := Aside0.mk hy128
                        clear hy128
                        have H' := Aside0.mk H
                        clear H
                        obtain ⟨Ao16, co16, eo16⟩ := Kd.R_slice HO_6.out
                        subst eo16
                        have p15 : 0 ≤ (x7_2 : Int) := of_decide_eq_true (by first | (with_reducible assumption) | assumption)
                        have q15 : (x7_2 : Int) < ((x6_2.length : Int) : Int) := of_decide_eq_true (by first | (with_reducible assumption) | assumption)
                        obtain ⟨go15, co15, eo15, gb15, gl15, cl15, HG15⟩ := Kd.R_form HO_6.out (len_pos_ p15 q15)
                        (first | cases eo15 | (injection eo15 with ea_ en_ ec_; (first | subst ea_ | (injection ea_ with ea_; subst ea_)); subst ec_; clear en_))
                        have GB15 := Aside0.mk gb15
                        have GG15 := Aside0.mk HG15
                        clear gb15 gl15 HG15
                        obtain ⟨hx15_0, hf15_0⟩ := Kd.R_celln 0 HO_6.out (x7_2 : Int) p15 q15
                        replace p15 := eq_true p15
                        replace q15 := eq_true q15
                        have HP17 := Kd.R_putg HO_6.out (x7_2 : Int) (-1)
                        go_wp2_with (first | ((with_reducible refine gate_store (t := 3) (p := 39) rfl ?_); (try (rw [drewN_self wr]; generalize hq_ : World.drewN wr _ = wr; have n0_ := Aside0.mk (Kd.R_at hq_ HO_6.out); have n1_ := Aside0.mk (below_at hq_ HB.out); clear hq_ HO_6 HB; have HO_6 := n0_; have HB := n1_; clear n0_ n1_; (try (have HP17 := Kd.R_putg HO_6.out (x7_2 : Int) (-1))))); refine store_event (t := 3) (p := 39) (v := ?vo_w18) (w1 := (wr.setCell ⟨go15, (x7_2 : Int).toNat, none⟩ (.int .i64 (-1)))) ?hg ?ho ?hn ?hr ?_; (case ho => rfl); (case hg => rfl); (case hn => rfl); (case hr => first | (go_simp; done) | (go_simp; rfl)); intro w18 hw; have hg : wr.grownBy w18 (some go15) := (by rw [hw]; exact HP17.2); have hp_ : Kd.R (Kd.int .i64) 3 w18 w.heap.size (fun _ => True) (.slice (some ⟨go15, 0, none⟩) x6_2.length co16) y128 := (by rw [hw, Ny128.out]; exact HP17.1); clear HP17; have n0_ := Aside0.mk (hp_); have n1_ := Aside0.mk ((by rw [hw]; exact below_set (HB.out) GB15.out : Below w.heap.size w w18)); clear HO_6; clear HB; have HO_6 := n0_; have HB := n1_; clear n0_ n1_; clear hg hw hp_))
                        repeat (go_quiet (first | ((with_reducible refine gate_store (t := 3) (p := 39) rfl ?_); (try (rw [drewN_self wr]; generalize hq_ : World.drewN wr _ = wr; have n0_ := Aside0.mk (Kd.R_at hq_ HO_6.out); have n1_ := Aside0.mk (below_at hq_ HB.out); clear hq_ HO_6 HB; have HO_6 := n0_; have HB := n1_; clear n0_ n1_; (try (have HP17 := Kd.R_putg HO_6.out (x7_2 : Int) (-1))))); refine store_event (t := 3) (p := 39) (v := ?vo_w18) (w1 := (wr.setCell ⟨go15, (x7_2 : Int).toNat, none⟩ (.int .i64 (-1)))) ?hg ?ho ?hn ?hr ?_; (case ho => rfl); (case hg => rfl); (case hn => rfl); (case hr => first | (go_simp; done) | (go_simp; rfl)); intro w18 hw; have hg : wr.grownBy w18 (some go15) := (by rw [hw]; exact HP17.2); have hp_ : Kd.R (Kd.int .i64) 3 w18 w.heap.size (fun _ => True) (.slice (some ⟨go15, 0, none⟩) x6_2.length co16) y128 := (by rw [hw, Ny128.out]; exact HP17.1); clear HP17; have n0_ := Aside0.mk (hp_); have n1_ := Aside0.mk ((by rw [hw]; exact below_set (HB.out) GB15.out : Below w.heap.size w w18)); clear HO_6; clear HB; have HO_6 := n0_; have HB := n1_; clear n0_ n1_; clear hg hw hp_)); try go_wp2_with (first | ((with_reducible refine gate_store (t := 3) (p := 39) rfl ?_); (try (rw [drewN_self wr]; generalize hq_ : World.drewN wr _ = wr; have n0_ := Aside0.mk (Kd.R_at hq_ HO_6.out); have n1_ := Aside0.mk (below_at hq_ HB.out); clear hq_ HO_6 HB; have HO_6 := n0_; have HB := n1_; clear n0_ n1_; (try (have HP17 := Kd.R_putg HO_6.out (x7_2 : Int) (-1))))); refine store_event (t := 3) (p := 39) (v := ?vo_w18) (w1 := (wr.setCell ⟨go15, (x7_2 : Int).toNat, none⟩ (.int .i64 (-1)))) ?hg ?ho ?hn ?hr ?_; (case ho => rfl); (case hg => rfl); (case hn => rfl); (case hr => first | (go_simp; done) | (go_simp; rfl)); intro w18 hw; have hg : wr.grownBy w18 (some go15) := (by rw [hw]; exact HP17.2); have hp_ : Kd.R (Kd.int .i64) 3 w18 w.heap.size (fun _ => True) (.slice (some ⟨go15, 0, none⟩) x6_2.length co16) y128 := (by rw [hw, Ny128.out]; exact HP17.1); clear HP17; have n0_ := Aside0.mk (hp_); have n1_ := Aside0.mk ((by rw [hw]; exact below_set (HB.out) GB15.out : Below w.heap.size w w18)); clear HO_6; clear HB; have HO_6 := n0_; have HB := n1_; clear n0_ n1_; clear hg hw hp_)))
                        go_roundg k2
                        case measure => have := HJ2.out; have := HK2.out; omega
                        case rel => exact ⟨(y128), (wrap64 (x7_2 + 1)), (by first | rfl | (simp; done) | (simp [*]; done)), H', ⟨by have := HJ2.out; have := HK2.out; omega⟩, ⟨by (with_reducible repeat (first | apply Kd.R_alloc | apply Kd.R_drewN | apply Kd.R_drew)); exact HO_6.out⟩, ⟨by repeat (first | (with_reducible first | exact HB.out | apply below_alloc | apply pw_below_drewN | apply below_drew1) | exact HB.out)⟩⟩
                      · rw [if_neg c14] at H
                        exact absurd H (by simp)
                    · rw [if_neg c13] at H
                      have c13b0 : decide (x7_2 < (x6_2.length : Int)) = false := decide_eq_false c13
                      clear c13
                      obtain ⟨ji19, hji19⟩ : ∃ j_ : Int, (wrap64 (a0 - 1)) = j_ := ⟨_, rfl⟩
                      replace H : (if 0 ≤ (ji19) then (if 0 ≤ (shl .i64 1 (ji19)) then (if (shl .i64 1 (ji19)) < (x6_2.length : Int) then (backstepref44_Best.l1 k2 a0 a1 (x6_2.set ((shl .i64 1 (ji19)) : Int).toNat 0) (shl .i64 1 (ji19)) (([shl .i64 1 (ji19)] : List Int))) else (none)) else (none)) else (none)) = some (r1, r2) := by first | (rw [hji19] at H; exact H) | (simp only [hji19] at H ⊢; exact H)
                      have hji19w : (IntKind.i64.wrap (a0 - 1)) = ji19 := (i64_w _).trans hji19
                      by_cases c20 : 0 ≤ (ji19)
                      · rw [if_pos c20] at H
                        have c20b0 := eq_true c20
                        have c20b1 : decide (0 ≤ (ji19)) = true := decide_eq_true c20
                        clear c20
                        obtain ⟨ji21, hji21⟩ : ∃ j_ : Int, (shl .i64 1 (ji19)) = j_ := ⟨_, rfl⟩
                        replace H : (if 0 ≤ (ji21) then (if (ji21) < (x6_2.length : Int) then (backstepref44_Best.l1 k2 a0 a1 (x6_2.set ((ji21) : Int).toNat 0) ji21 (([ji21] : List Int))) else (none)) else (none)) = some (r1, r2) := by first | (rw [hji21] at H; exact H) | (simp only [hji21] at H ⊢; exact H)
                        have hji21_ : (IntKind.i64.wrap (1 * 2 ^ min (ji19).toNat 64)) = ji21 := hji21
                        have hji21z : (ji19) ≤ 64 → (IntKind.i64.wrap (1 * 2 ^ (ji19).toNat)) = ji21 := shl_small hji21
                        have hji21u : (IntKind.i64.wrap (2 ^ min (ji19).toNat 64)) = ji21 := by have h_ := hji21_; rw [Int.one_mul] at h_; exact h_
                        have hji21v : (ji19) ≤ 64 → (IntKind.i64.wrap (2 ^ (ji19).toNat)) = ji21 := fun hle_ => by have h_ := hji21z hle_; rw [Int.one_mul] at h_; exact h_
                        have hji21y : (wrap64 (1 * 2 ^ min (ji19).toNat 64)) = ji21 := (i64_w _).symm.trans hji21_
                        have hji21x : (ji19) ≤ 64 → (wrap64 (1 * 2 ^ (ji19).toNat)) = ji21 := fun h_ => (i64_w _).symm.trans (hji21z h_)
                        by_cases c22 : 0 ≤ (ji21)
                        · rw [if_pos c22] at H
                          have c22b0 : decide (0 ≤ (ji21)) = true := decide_eq_true c22
                          clear c22
                          by_cases c23 : (ji21) < (x6_2.length : Int)
                          · rw [if_pos c23] at H
                            have c23b0 : decide ((ji21) < (x6_2.length : Int)) = true := decide_eq_true c23
                            clear c23
                            obtain ⟨y129, hy129⟩ : ∃ y_ : List Int, y_ = (x6_2.set ((ji21) : Int).toNat 0) := ⟨_, rfl⟩
                            replace H : (backstepref44_Best.l1 k2 a0 a1 y129 ji21 (([ji21] : List Int))) = some (r1, r2) := by first | (rw [hy129]; with_reducible exact H) | (have H2_ := (Option.bind_some _ _).symm.trans H; rw [hy129]; with_reducible exact H2_) | (have H2_ := (Option.bind_some _ _).symm.trans H; with_reducible exact H2_) | with_reducible exact H | (rw [hy129]; exact H) | exact H
                            have Ny129 := Aside0.mk hy129
                            clear hy129
                            obtain ⟨y130, hy130⟩ : ∃ y_ : List Int, y_ = (([ji21] : List Int)) := ⟨_, rfl⟩
                            replace H : (backstepref44_Best.l1 k2 a0 a1 y129 ji21 y130) = some (r1, r2) := by first | (rw [hy130]; with_reducible exact H) | (have H2_ := (Option.bind_some _ _).symm.trans H; rw [hy130]; with_reducible exact H2_) | (have H2_ := (Option.bind_some _ _).symm.trans H; with_reducible exact H2_) | with_reducible exact H | (rw [hy130]; exact H) | exact H
                            have Ny130 := Aside0.mk hy130
                            clear hy130
                            have H' := Aside0.mk H
                            clear H
                            obtain ⟨Ao25, co25, eo25⟩ := Kd.R_slice HO_6.out
                            subst eo25
                            have p24 : 0 ≤ ((ji21) : Int) := of_decide_eq_true (by first | (with_reducible assumption) | assumption)
                            have q24 : ((ji21) : Int) < ((x6_2.length : Int) : Int) := of_decide_eq_true (by first | (with_reducible assumption) | assumption)
                            obtain ⟨go24, co24, eo24, gb24, gl24, cl24, HG24⟩ := Kd.R_form HO_6.out (len_pos_ p24 q24)
                            (first | cases eo24 | (injection eo24 with ea_ en_ ec_; (first | subst ea_ | (injection ea_ with ea_; subst ea_)); subst ec_; clear en_))
                            have GB24 := Aside0.mk gb24
                            have GG24 := Aside0.mk HG24
                            clear gb24 gl24 HG24
                            obtain ⟨hx24_0, hf24_0⟩ := Kd.R_celln 0 HO_6.out ((ji21) : Int) p24 q24
                            replace p24 := eq_true p24
                            replace q24 := eq_true q24
                            have HP26 := Kd.R_putg HO_6.out ((ji21) : Int) 0
                            go_wp2_with (first | ((with_reducible refine gate_store (t := 3) (p := 45) rfl ?_); (try (rw [drewN_self wr]; generalize hq_ : World.drewN wr _ = wr; have n0_ := Aside0.mk (Kd.R_at hq_ HO_6.out); have n1_ := Aside0.mk (below_at hq_ HB.out); clear hq_ HO_6 HB; have HO_6 := n0_; have HB := n1_; clear n0_ n1_; (try (have HP26 := Kd.R_putg HO_6.out ((ji21) : Int) 0)))); refine store_event (t := 3) (p := 45) (v := ?vo_w27) (w1 := (wr.setCell ⟨go24, ((ji21) : Int).toNat, none⟩ (.int .i64 0))) ?hg ?ho ?hn ?hr ?_; (case ho => rfl); (case hg => rfl); (case hn => rfl); (case hr => first | (go_simp; done) | (go_simp; rfl)); intro w27 hw; have hg : wr.grownBy w27 (some go24) := (by rw [hw]; exact HP26.2); have hp_ : Kd.R (Kd.int .i64) 3 w27 w.heap.size (fun _ => True) (.slice (some ⟨go24, 0, none⟩) x6_2.length co25) y129 := (by rw [hw, Ny129.out]; exact HP26.1); clear HP26; have n0_ := Aside0.mk (hp_); have n1_ := Aside0.mk ((by rw [hw]; exact below_set (HB.out) GB24.out : Below w.heap.size w w27)); clear HO_6; clear HB; have HO_6 := n0_; have HB := n1_; clear n0_ n1_; clear hg hw hp_) | ((with_reducible refine gate_dst (N := 47) rfl ?_); refine Kd.R_lit (Kd.int .i64) _ 3 ?hg (N := 47) ?hd (xs := ([ji21] : List Int)) (inner := [.int .i64 ji21]) (ok := fun _ => True) (okp := fun _ => True) ?hr ?hp (fun _ hk => hk) trivial (Below.refl _ _) (Nat.le_refl _) (by simp) ?_; (case hd => rfl); (case hg => rfl); (case hr => first | (go_simp; done) | (go_simp; rfl)); (case hp => exact (Reps.one (show Kd.M (Kd.int .i64) _ _ _ ji21 [.int .i64 ji21] from rfl) (Reps.none _ _))); intro v131 w28 ho29 hb hg_ hnew_; clear hg_ hnew_; (first | rw [← Ny130.out] at ho29 | (simp only [Int.reduceToNat] at ho29; rw [← Ny130.out] at ho29)); have n0_ := Aside0.mk (Kd.R_elder' (by (with_reducible repeat (first | apply Kd.R_alloc | apply Kd.R_drewN | apply Kd.R_drew)); exact HO_6.out) (Kd.R_base ho29) hb); have n1_ := Aside0.mk (Kd.R_lower (Kd.R_new' ho29 (Kd.R_lt (by (with_reducible repeat (first | apply Kd.R_alloc | apply Kd.R_drewN | apply Kd.R_drew)); exact HO_6.out))) (below_size (by repeat (first | (with_reducible first | exact HB.out | apply below_alloc | apply pw_below_drewN | apply below_drew1) | exact HB.out)))); have n2_ := Aside0.mk (below_step (by repeat (first | (with_reducible first | exact HB.out | apply below_alloc | apply pw_below_drewN | apply below_drew1) | exact HB.out)) hb); clear HO_6; clear HB; have HO_6 := n0_; have HO132 := n1_; have HB := n2_; clear n0_ n1_ n2_; clear hb ho29))
                            repeat (go_quiet (first | ((with_reducible refine gate_store (t := 3) (p := 45) rfl ?_); (try (rw [drewN_self wr]; generalize hq_ : World.drewN wr _ = wr; have n0_ := Aside0.mk (Kd.R_at hq_ HO_6.out); have n1_ := Aside0.mk (below_at hq_ HB.out); clear hq_ HO_6 HB; have HO_6 := n0_; have HB := n1_; clear n0_ n1_; (try (have HP26 := Kd.R_putg HO_6.out ((ji21) : Int) 0)))); refine store_event (t := 3) (p := 45) (v := ?vo_w27) (w1 := (wr.setCell ⟨go24, ((ji21) : Int).toNat, none⟩ (.int .i64 0))) ?hg ?ho ?hn ?hr ?_; (case ho => rfl); (case hg => rfl); (case hn => rfl); (case hr => first | (go_simp; done) | (go_simp; rfl)); intro w27 hw; have hg : wr.grownBy w27 (some go24) := (by rw [hw]; exact HP26.2); have hp_ : Kd.R (Kd.int .i64) 3 w27 w.heap.size (fun _ => True) (.slice (some ⟨go24, 0, none⟩) x6_2.length co25) y129 := (by rw [hw, Ny129.out]; exact HP26.1); clear HP26; have n0_ := Aside0.mk (hp_); have n1_ := Aside0.mk ((by rw [hw]; exact below_set (HB.out) GB24.out : Below w.heap.size w w27)); clear HO_6; clear HB; have HO_6 := n0_; have HB := n1_; clear n0_ n1_; clear hg hw hp_) | ((with_reducible refine gate_dst (N := 47) rfl ?_); refine Kd.R_lit (Kd.int .i64) _ 3 ?hg (N := 47) ?hd (xs := ([ji21] : List Int)) (inner := [.int .i64 ji21]) (ok := fun _ => True) (okp := fun _ => True) ?hr ?hp (fun _ hk => hk) trivial (Below.refl _ _) (Nat.le_refl _) (by simp) ?_; (case hd => rfl); (case hg => rfl); (case hr => first | (go_simp; done) | (go_simp; rfl)); (case hp => exact (Reps.one (show Kd.M (Kd.int .i64) _ _ _ ji21 [.int .i64 ji21] from rfl) (Reps.none _ _))); intro v131 w28 ho29 hb hg_ hnew_; clear hg_ hnew_; (first | rw [← Ny130.out] at ho29 | (simp only [Int.reduceToNat] at ho29; rw [← Ny130.out] at ho29)); have n0_ := Aside0.mk (Kd.R_elder' (by (with_reducible repeat (first | apply Kd.R_alloc | apply Kd.R_drewN | apply Kd.R_drew)); exact HO_6.out) (Kd.R_base ho29) hb); have n1_ := Aside0.mk (Kd.R_lower (Kd.R_new' ho29 (Kd.R_lt (by (with_reducible repeat (first | apply Kd.R_alloc | apply Kd.R_drewN | apply Kd.R_drew)); exact HO_6.out))) (below_size (by repeat (first | (with_reducible first | exact HB.out | apply below_alloc | apply pw_below_drewN | apply below_drew1) | exact HB.out)))); have n2_ := Aside0.mk (below_step (by repeat (first | (with_reducible first | exact HB.out | apply below_alloc | apply pw_below_drewN | apply below_drew1) | exact HB.out)) hb); clear HO_6; clear HB; have HO_6 := n0_; have HO132 := n1_; have HB := n2_; clear n0_ n1_ n2_; clear hb ho29)); try go_wp2_with (first | ((with_reducible refine gate_store (t := 3) (p := 45) rfl ?_); (try (rw [drewN_self wr]; generalize hq_ : World.drewN wr _ = wr; have n0_ := Aside0.mk (Kd.R_at hq_ HO_6.out); have n1_ := Aside0.mk (below_at hq_ HB.out); clear hq_ HO_6 HB; have HO_6 := n0_; have HB := n1_; clear n0_ n1_; (try (have HP26 := Kd.R_putg HO_6.out ((ji21) : Int) 0)))); refine store_event (t := 3) (p := 45) (v := ?vo_w27) (w1 := (wr.setCell ⟨go24, ((ji21) : Int).toNat, none⟩ (.int .i64 0))) ?hg ?ho ?hn ?hr ?_; (case ho => rfl); (case hg => rfl); (case hn => rfl); (case hr => first | (go_simp; done) | (go_simp; rfl)); intro w27 hw; have hg : wr.grownBy w27 (some go24) := (by rw [hw]; exact HP26.2); have hp_ : Kd.R (Kd.int .i64) 3 w27 w.heap.size (fun _ => True) (.slice (some ⟨go24, 0, none⟩) x6_2.length co25) y129 := (by rw [hw, Ny129.out]; exact HP26.1); clear HP26; have n0_ := Aside0.mk (hp_); have n1_ := Aside0.mk ((by rw [hw]; exact below_set (HB.out) GB24.out : Below w.heap.size w w27)); clear HO_6; clear HB; have HO_6 := n0_; have HB := n1_; clear n0_ n1_; clear hg hw hp_) | ((with_reducible refine gate_dst (N := 47) rfl ?_); refine Kd.R_lit (Kd.int .i64) _ 3 ?hg (N := 47) ?hd (xs := ([ji21] : List Int)) (inner := [.int .i64 ji21]) (ok := fun _ => True) (okp := fun _ => True) ?hr ?hp (fun _ hk => hk) trivial (Below.refl _ _) (Nat.le_refl _) (by simp) ?_; (case hd => rfl); (case hg => rfl); (case hr => first | (go_simp; done) | (go_simp; rfl)); (case hp => exact (Reps.one (show Kd.M (Kd.int .i64) _ _ _ ji21 [.int .i64 ji21] from rfl) (Reps.none _ _))); intro v131 w28 ho29 hb hg_ hnew_; clear hg_ hnew_; (first | rw [← Ny130.out] at ho29 | (simp only [Int.reduceToNat] at ho29; rw [← Ny130.out] at ho29)); have n0_ := Aside0.mk (Kd.R_elder' (by (with_reducible repeat (first | apply Kd.R_alloc | apply Kd.R_drewN | apply Kd.R_drew)); exact HO_6.out) (Kd.R_base ho29) hb); have n1_ := Aside0.mk (Kd.R_lower (Kd.R_new' ho29 (Kd.R_lt (by (with_reducible repeat (first | apply Kd.R_alloc | apply Kd.R_drewN | apply Kd.R_drew)); exact HO_6.out))) (below_size (by repeat (first | (with_reducible first | exact HB.out | apply below_alloc | apply pw_below_drewN | apply below_drew1) | exact HB.out)))); have n2_ := Aside0.mk (below_step (by repeat (first | (with_reducible first | exact HB.out | apply below_alloc | apply pw_below_drewN | apply below_drew1) | exact HB.out)) hb); clear HO_6; clear HB; have HO_6 := n0_; have HO132 := n1_; have HB := n2_; clear n0_ n1_ n2_; clear hb ho29)))
                            go_loopg [9] k2 (fun kq v9 w' => ∃ (x6_3 : List Int) (x9_3 : List Int), Aside0 (backstepref44_Best.l1 kq a0 a1 x6_3 ji21 x9_3 = some (r1, r2)) ∧ Aside0 (kq ≤ k2) ∧ Aside0 (Kd.R (Kd.int .i64) 3 w' w.heap.size (fun k_ => some k_ ≠ (v9 : Value).ownBlock) (.slice (some ⟨go24, 0, none⟩) x6_2.length co25) x6_3) ∧ Aside0 (Kd.R (Kd.int .i64) 3 w' w.heap.size (fun k_ => some k_ ≠ ((.slice (some ⟨go24, 0, none⟩) x6_2.length co25) : Value).ownBlock) v9 x9_3) ∧ Aside0 (Below w.heap.size w w'))
                            case atStart => exact ⟨(y129), (y130), H', ⟨Nat.le_refl _⟩, ⟨by (with_reducible repeat (first | apply Kd.R_alloc | apply Kd.R_drewN | apply Kd.R_drew)); exact Kd.R_mono HO_6.out (fun _ hk => hk.2)⟩, ⟨by (with_reducible repeat (first | apply Kd.R_alloc | apply Kd.R_drewN | apply Kd.R_drew)); exact Kd.R_mono HO132.out (fun _ hk => hk.2)⟩, ⟨by repeat (first | (with_reducible first | exact HB.out | apply below_alloc | apply pw_below_drewN | apply below_drew1) | exact HB.out)⟩⟩
                            case round =>
                              as_aux_lemma =>
                                clear H'
                                try clear c1
                                try clear p1
                                try clear q1
                                try clear hx1
                                try clear c2
                                try clear p2
                                try clear q2
                                try clear hx2
                                try clear hf2
                                try clear c4
                                try clear c4b0
                                try clear c5
                                try clear c5b0
                                try clear c6
                                try clear p6
                                try clear c7
                                try clear c7b0
                                try clear c7b1
                                try clear c9
                                try clear c9b0
                                try clear c9b1
                                try clear c10
                                try clear c10b0
                                try clear c10b1
                                try clear c13
                                try clear c13b0
                                try clear c14
                                try clear c14b0
                                try clear p15
                                try clear q15
                                try clear hx15
                                try clear hf15
                                try clear c16
                                try clear c20
                                try clear c20b0
                                try clear c20b1
                                try clear c22
                                try clear c22b0
                                try clear c23
                                try clear c23b0
                                try clear p24
                                try clear q24
                                try clear hx24
                                try clear hf24
                                try clear hx15_0
                                try clear hx24_0
                                try clear p15
                                try clear p2
                                try clear p24
                                try clear p6
                                try clear q15
                                try clear q24
                                obtain ⟨x6_3, x9_3, HA, HK3, HO_6, HO_9, HB⟩ := hrel
                                have hl6_3 := (Kd.R_reads' HO_6.out).1
                                rw [hl6_3] at HO_6
                                (try simp only [hl6_3])
                                (try simp only [hl6_3] at HO_9)
                                cases gk with
                                | zero => exact absurd HA.out (by simp [backstepref44_Best.l1])
                                | succ k3 =>
                                  have H := HA.out
                                  clear HA
                                  simp only [backstepref44_Best.l1] at H
                                  by_cases c30 : (x9_3.length : Int) > 0
                                  · rw [if_pos c30] at H
                                    have c30b0 : decide (0 < (x9_3.length : Int)) = true := decide_eq_true c30
                                    have c30b1 : decide (0 < x9_3.length) = true := decide_eq_true (by omega)
                                    clear c30
                                    have H' := Aside0.mk H
                                    clear H
                                    obtain ⟨Ao31, co31, eo31⟩ := Kd.R_slice HO_9.out
                                    subst eo31
                                    go_wp2
                                    repeat (go_quiet (fail); try go_wp2)
                                    go_loopg [10, 11] k3 (fun kq v10 v11 w' => ∃ (x6_4 : List Int) (x10_4 : List Int) (x11_4 : Int), v11 = .int .i64 x11_4 ∧ Aside0 (backstepref44_Best.l2 kq a0 a1 x6_4 ji21 x9_3 x10_4 x11_4 = some (r1, r2)) ∧ Aside0 (kq ≤ k3) ∧ Aside0 (Kd.R (Kd.int .i64) 3 w' w.heap.size (fun k_ => some k_ ≠ ((.slice Ao31 x9_3.length co31) : Value).ownBlock ∧ some k_ ≠ (v10 : Value).ownBlock) (.slice (some ⟨go24, 0, none⟩) x6_3.length co25) x6_4) ∧ Aside0 (Kd.R (Kd.int .i64) 3 w' w.heap.size (fun k_ => some k_ ≠ ((.slice (some ⟨go24, 0, none⟩) x6_3.length co25) : Value).ownBlock ∧ some k_ ≠ (v10 : Value).ownBlock) (.slice Ao31 x9_3.length co31) x9_3) ∧ Aside0 (Kd.R (Kd.int .i64) 3 w' w.heap.size (fun k_ => some k_ ≠ ((.slice (some ⟨go24, 0, none⟩) x6_3.length co25) : Value).ownBlock ∧ some k_ ≠ ((.slice Ao31 x9_3.length co31) : Value).ownBlock) v10 x10_4) ∧ Aside0 (Below w.heap.size w w'))
                                    case atStart => exact ⟨(x6_3), (([] : List Int)), (0), (by first | rfl | (simp; done) | (simp [*]; done)), H', ⟨Nat.le_refl _⟩, ⟨by (try simp only [hl6_3]); (with_reducible repeat (first | apply Kd.R_alloc | apply Kd.R_drewN | apply Kd.R_drew)); exact Kd.R_mono HO_6.out (fun _ hk => ⟨hk, (by simp [Value.ownBlock])⟩)⟩, ⟨by (try simp only [hl6_3]); (with_reducible repeat (first | apply Kd.R_alloc | apply Kd.R_drewN | apply Kd.R_drew)); exact Kd.R_mono HO_9.out (fun _ hk => ⟨hk, (by simp [Value.ownBlock])⟩)⟩, ⟨by (try simp only [hl6_3]); first | exact Kd.R_nil _ _ _ _ _ | exact Kd.N_nil _ _ _ _ _ | exact Kd.V_nil _ _ _ _ _ | exact Kd.Q_nil _ _ _ _ _ | exact Kd.S_nil _ _ _ _ _⟩, ⟨by repeat (first | (with_reducible first | exact HB.out | apply below_alloc | apply pw_below_drewN | apply below_drew1) | exact HB.out)⟩⟩
                                    case round =>
                                      as_aux_lemma =>
                                        clear H'
                                        try clear c1
                                        try clear p1
                                        try clear q1
                                        try clear hx1
                                        try clear c2
                                        try clear p2
                                        try clear q2
                                        try clear hx2
                                        try clear hf2
                                        try clear c3
                                        try clear c4
                                        try clear c4b0
                                        try clear c5
                                        try clear c5b0
                                        try clear c6
                                        try clear p6
                                        try clear c7
                                        try clear c7b0
                                        try clear c7b1
                                        try clear c9
                                        try clear c9b0
                                        try clear c9b1
                                        try clear c10
                                        try clear c10b0
                                        try clear c10b1
                                        try clear c13
                                        try clear c13b0
                                        try clear c14
                                        try clear c14b0
                                        try clear p15
                                        try clear q15
                                        try clear hx15
                                        try clear hf15
                                        try clear c16
                                        try clear c20
                                        try clear c20b0
                                        try clear c20b1
                                        try clear c22
                                        try clear c22b0
                                        try clear c23
                                        try clear c23b0
                                        try clear p24
                                        try clear q24
                                        try clear hx24
                                        try clear hf24
                                        try clear c30
                                        try clear c30b0
                                        try clear c30b1
                                        try clear hx15_0
                                        try clear hx24_0
                                        try clear p1
                                        try clear p15
                                        try clear p2
                                        try clear p24
                                        try clear p6
                                        try clear q1
                                        try clear q15
                                        try clear q2
                                        try clear q24
                                        obtain ⟨x6_4, x10_4, x11_4, rfl, HA, HK4, HO_6, HO_9, HO_10, HB⟩ := hrel
                                        have hl6_4 := (Kd.R_reads' HO_6.out).1
                                        rw [hl6_4] at HO_6
                                        (try simp only [hl6_4])
                                        (try simp only [hl6_4] at HO_9)
                                        (try simp only [hl6_4] at HO_10)
                                        cases gk with
                                        | zero => exact absurd HA.out (by simp [backstepref44_Best.l2])
                                        | succ k4 =>
                                          have H := HA.out
                                          clear HA
                                          simp only [backstepref44_Best.l2] at H
                                          by_cases c32 : x11_4 < (x9_3.length : Int)
                                          · rw [if_pos c32] at H
                                            have c32b0 : decide (x11_4 < (x9_3.length : Int)) = true := decide_eq_true c32
                                            clear c32
                                            have H' := Aside0.mk H
                                            clear H
                                            go_wp2
                                            repeat (go_quiet (fail); try go_wp2)
                                            go_loopg [10, 12] k4 (fun kq v10 v12 w' => ∃ (x6_5 : List Int) (x10_5 : List Int) (x12_5 : Int), v12 = .int .i64 x12_5 ∧ Aside0 (backstepref44_Best.l3 kq a0 a1 x6_5 ji21 x9_3 x10_5 x11_4 x12_5 = some (r1, r2)) ∧ Aside0 (kq ≤ k4) ∧ Aside0 (Kd.R (Kd.int .i64) 3 w' w.heap.size (fun k_ => some k_ ≠ ((.slice Ao31 x9_3.length co31) : Value).ownBlock ∧ some k_ ≠ (v10 : Value).ownBlock) (.slice (some ⟨go24, 0, none⟩) x6_4.length co25) x6_5) ∧ Aside0 (Kd.R (Kd.int .i64) 3 w' w.heap.size (fun k_ => some k_ ≠ ((.slice (some ⟨go24, 0, none⟩) x6_4.length co25) : Value).ownBlock ∧ some k_ ≠ (v10 : Value).ownBlock) (.slice Ao31 x9_3.length co31) x9_3) ∧ Aside0 (Kd.R (Kd.int .i64) 3 w' w.heap.size (fun k_ => some k_ ≠ ((.slice (some ⟨go24, 0, none⟩) x6_4.length co25) : Value).ownBlock ∧ some k_ ≠ ((.slice Ao31 x9_3.length co31) : Value).ownBlock) v10 x10_5) ∧ Aside0 (Below w.heap.size w w'))
                                            case atStart => exact ⟨(x6_4), (x10_4), (wrap64 (-a0)), (by first | rfl | (simp; done) | (simp [*]; done)), H', ⟨Nat.le_refl _⟩, ⟨by (try simp only [hl6_3]); (try simp only [hl6_4]); (with_reducible repeat (first | apply Kd.R_alloc | apply Kd.R_drewN | apply Kd.R_drew)); exact HO_6.out⟩, ⟨by (try simp only [hl6_3]); (try simp only [hl6_4]); (with_reducible repeat (first | apply Kd.R_alloc | apply Kd.R_drewN | apply Kd.R_drew)); exact HO_9.out⟩, ⟨by (try simp only [hl6_3]); (try simp only [hl6_4]); (with_reducible repeat (first | apply Kd.R_alloc | apply Kd.R_drewN | apply Kd.R_drew)); exact HO_10.out⟩, ⟨by repeat (first | (with_reducible first | exact HB.out | apply below_alloc | apply pw_below_drewN | apply below_drew1) | exact HB.out)⟩⟩
                                            case round =>
                                              as_aux_lemma =>
                                                clear H'
                                                try clear c1
                                                try clear p1
                                                try clear q1
                                                try clear hx1
                                                try clear c2
                                                try clear p2
                                                try clear q2
                                                try clear hx2
                                                try clear hf2
                                                try clear c3
                                                try clear c4
                                                try clear c4b0
                                                try clear c5
                                                try clear c5b0
                                                try clear c6
                                                try clear p6
                                                try clear c7
                                                try clear c7b0
                                                try clear c7b1
                                                try clear c9
                                                try clear c9b0
                                                try clear c9b1
                                                try clear c10
                                                try clear c10b0
                                                try clear c10b1
                                                try clear c13
                                                try clear c13b0
                                                try clear c14
                                                try clear c14b0
                                                try clear p15
                                                try clear q15
                                                try clear hx15
                                                try clear hf15
                                                try clear c16
                                                try clear c20
                                                try clear c20b0
                                                try clear c20b1
                                                try clear c22
                                                try clear c22b0
                                                try clear c23
                                                try clear c23b0
                                                try clear p24
                                                try clear q24
                                                try clear hx24
                                                try clear hf24
                                                try clear c30
                                                try clear c30b0
                                                try clear c30b1
                                                try clear c32
                                                try clear c32b0
                                                try clear hx15_0
                                                try clear hx24_0
                                                try clear p1
                                                try clear p15
                                                try clear p2
                                                try clear p24
                                                try clear p6
                                                try clear q1
                                                try clear q15
                                                try clear q2
                                                try clear q24
                                                obtain ⟨x6_5, x10_5, x12_5, rfl, HA, HK5, HO_6, HO_9, HO_10, HB⟩ := hrel
                                                have hl6_5 := (Kd.R_reads' HO_6.out).1
                                                rw [hl6_5] at HO_6
                                                (try simp only [hl6_5])
                                                (try simp only [hl6_5] at HO_9)
                                                (try simp only [hl6_5] at HO_10)
                                                cases gk with
                                                | zero => exact absurd HA.out (by simp [backstepref44_Best.l3])
                                                | succ k5 =>
                                                  have H := HA.out
                                                  clear HA
                                                  simp only [backstepref44_Best.l3] at H
                                                  by_cases c33 : x12_5 ≤ a0
                                                  · rw [if_pos c33] at H
                                                    have c33b0 : decide (x12_5 ≤ a0) = true := decide_eq_true c33
                                                    clear c33
                                                    by_cases c34 : 0 ≤ x11_4
                                                    · rw [if_pos c34] at H
                                                      have c34b0 : decide (0 ≤ x11_4) = true := decide_eq_true c34
                                                      clear c34
                                                      by_cases c35 : x11_4 < (x9_3.length : Int)
                                                      · rw [if_pos c35] at H
                                                        have c35b0 : decide (x11_4 < (x9_3.length : Int)) = true := decide_eq_true c35
                                                        clear c35
                                                        replace H := Option.bind_eq_some_iff.mp H
                                                        obtain ⟨t134, A360, H⟩ := H
                                                        replace H : (if t134 ≥ 0 then (if 0 ≤ t134 then (if t134 < (x6_5.length : Int) then (if (rd x6_5 t134) < 0 then ((backstepref44_count.f k5 t134).bind fun t136 => (if t136 ≤ a1 then (if 0 ≤ (rd x9_3 x11_4) then (if (rd x9_3 x11_4) < (x6_5.length : Int) then (if x10_5.length < 17592186044416 then (backstepref44_Best.l3 k5 a0 a1 (x6_5.set (t134 : Int).toNat (wrap64 ((rd x6_5 (rd x9_3 x11_4)) + 1))) ji21 x9_3 (x10_5 ++ [t134]) x11_4 (wrap64 (x12_5 + 1))) else (none)) else (none)) else (none)) else (backstepref44_Best.l3 k5 a0 a1 x6_5 ji21 x9_3 x10_5 x11_4 (wrap64 (x12_5 + 1))))) else (backstepref44_Best.l3 k5 a0 a1 x6_5 ji21 x9_3 x10_5 x11_4 (wrap64 (x12_5 + 1)))) else (none)) else (none)) else (backstepref44_Best.l3 k5 a0 a1 x6_5 ji21 x9_3 x10_5 x11_4 (wrap64 (x12_5 + 1)))) = some (r1, r2) := H
                                                        have A36 := Aside0.mk A360
                                                        clear A360
                                                        by_cases c37 : t134 ≥ 0
                                                        · rw [if_pos c37] at H
                                                          have c37b0 : decide (0 ≤ t134) = true := decide_eq_true c37
                                                          clear c37
                                                          by_cases c38 : 0 ≤ t134
                                                          · rw [if_pos c38] at H
                                                            have c38b0 : decide (0 ≤ t134) = true := decide_eq_true c38
                                                            clear c38
                                                            by_cases c39 : t134 < (x6_5.length : Int)
                                                            · rw [if_pos c39] at H
                                                              have c39b0 : decide (t134 < (x6_5.length : Int)) = true := decide_eq_true c39
                                                              clear c39
                                                              by_cases c40 : (rd x6_5 t134) < 0
                                                              · rw [if_pos c40] at H
                                                                have c40b0 : decide ((rd x6_5 t134) < 0) = true := decide_eq_true c40
                                                                clear c40
                                                                replace H := Option.bind_eq_some_iff.mp H
                                                                obtain ⟨t136, A410, H⟩ := H
                                                                replace H : (if t136 ≤ a1 then (if 0 ≤ (rd x9_3 x11_4) then (if (rd x9_3 x11_4) < (x6_5.length : Int) then (if x10_5.length < 17592186044416 then (backstepref44_Best.l3 k5 a0 a1 (x6_5.set (t134 : Int).toNat (wrap64 ((rd x6_5 (rd x9_3 x11_4)) + 1))) ji21 x9_3 (x10_5 ++ [t134]) x11_4 (wrap64 (x12_5 + 1))) else (none)) else (none)) else (none)) else (backstepref44_Best.l3 k5 a0 a1 x6_5 ji21 x9_3 x10_5 x11_4 (wrap64 (x12_5 + 1)))) = some (r1, r2) := H
                                                                have A41 := Aside0.mk A410
                                                                clear A410
                                                                by_cases c42 : t136 ≤ a1
                                                                · rw [if_pos c42] at H
                                                                  have c42b0 : decide (t136 ≤ a1) = true := decide_eq_true c42
                                                                  clear c42
                                                                  by_cases c43 : 0 ≤ (rd x9_3 x11_4)
                                                                  · rw [if_pos c43] at H
                                                                    have c43b0 : decide (0 ≤ (rd x9_3 x11_4)) = true := decide_eq_true c43
                                                                    clear c43
                                                                    by_cases c44 : (rd x9_3 x11_4) < (x6_5.length : Int)
                                                                    · rw [if_pos c44] at H
                                                                      have c44b0 : decide ((rd x9_3 x11_4) < (x6_5.length : Int)) = true := decide_eq_true c44
                                                                      clear c44
                                                                      obtain ⟨y139, hy139⟩ : ∃ y_ : List Int, y_ = (x6_5.set (t134 : Int).toNat (wrap64 ((rd x6_5 (rd x9_3 x11_4)) + 1))) := ⟨_, rfl⟩
                                                                      replace H : (if x10_5.length < 17592186044416 then (backstepref44_Best.l3 k5 a0 a1 y139 ji21 x9_3 (x10_5 ++ [t134]) x11_4 (wrap64 (x12_5 + 1))) else (none)) = some (r1, r2) := by first | (rw [hy139]; with_reducible exact H) | (have H2_ := (Option.bind_some _ _).symm.trans H; rw [hy139]; with_reducible exact H2_) | (have H2_ := (Option.bind_some _ _).symm.trans H; with_reducible exact H2_) | with_reducible exact H | (rw [hy139]; exact H) | exact H
                                                                      have Ny139 := Aside0.mk hy139
                                                                      clear hy139
                                                                      by_cases c46 : x10_5.length < 17592186044416
                                                                      · rw [if_pos c46] at H
                                                                        have LMc46 := Aside0.mk c46
                                                                        clear c46
                                                                        obtain ⟨y140, hy140⟩ : ∃ y_ : List Int, y_ = (x10_5 ++ [t134]) := ⟨_, rfl⟩
                                                                        replace H : (backstepref44_Best.l3 k5 a0 a1 y139 ji21 x9_3 y140 x11_4 (wrap64 (x12_5 + 1))) = some (r1, r2) := by first | (rw [hy140]; with_reducible exact H) | (have H2_ := (Option.bind_some _ _).symm.trans H; rw [hy140]; with_reducible exact H2_) | (have H2_ := (Option.bind_some _ _).symm.trans H; with_reducible exact H2_) | with_reducible exact H | (rw [hy140]; exact H) | exact H
                                                                        have Ny140 := Aside0.mk hy140
                                                                        clear hy140
                                                                        have H' := Aside0.mk H
                                                                        clear H
                                                                        have p133 : 0 ≤ (x11_4 : Int) := of_decide_eq_true (by first | (with_reducible assumption) | assumption)
                                                                        have q133 : x11_4 < (x9_3.length : Int) := of_decide_eq_true (by first | (with_reducible assumption) | assumption)
                                                                        obtain ⟨ad133, e133, hx133_0⟩ := Kd.at_int (Kd.R_reads' HO_9.out).2.2 x11_4 p133 q133
                                                                        cases e133
                                                                        replace p133 := eq_true p133
                                                                        replace q133 := eq_true q133
                                                                        go_wp2_with (first | (go_at_call 29; (with_reducible refine (backstepref44_after.calls k5 a0 (rd x9_3 x11_4) x12_5 t134 _ A36.out).mono ?_); rintro e w' ⟨rfl, ⟨nd, rfl⟩⟩; (try first | exact ⟨rfl, _, World.drewN_drewN _ _ _⟩ | exact ⟨rfl, _, Eq.trans (World.drewN_drewN _ _ _) (congrArg (World.drewN _) (Nat.add_assoc _ _ _))⟩); have p135 : 0 ≤ (t134 : Int) := of_decide_eq_true (by first | (with_reducible assumption) | assumption); have q135 : t134 < (x6_5.length : Int) := of_decide_eq_true (by first | (with_reducible assumption) | assumption); obtain ⟨ad135, e135, hx135_0⟩ := Kd.at_int (Kd.R_reads' HO_6.out).2.2 t134 p135 q135; obtain rfl : (⟨go24, 0, none⟩ : Addr) = ad135 := (by injection e135); (first | simp only [add_plain] at hx135_0 | simp only [add_at] at hx135_0 | simp only [Addr.add, Nat.zero_add] at hx135_0 | skip); replace p135 := eq_true p135; replace q135 := eq_true q135) | (go_at_call 30; (with_reducible refine (backstepref44_count.calls k5 t134 t136 _ A41.out).mono ?_); rintro e w' ⟨rfl, ⟨nd, rfl⟩⟩; (try first | exact ⟨rfl, _, World.drewN_drewN _ _ _⟩ | exact ⟨rfl, _, Eq.trans (World.drewN_drewN _ _ _) (congrArg (World.drewN _) (Nat.add_assoc _ _ _))⟩); have p137 : 0 ≤ (x11_4 : Int) := of_decide_eq_true (by first | (with_reducible assumption) | assumption); have q137 : x11_4 < (x9_3.length : Int) := of_decide_eq_true (by first | (with_reducible assumption) | assumption); obtain ⟨ad137, e137, hx137_0⟩ := Kd.at_int (Kd.R_reads' HO_9.out).2.2 x11_4 p137 q137; obtain rfl : ad133 = ad137 := (by injection e137); replace p137 := eq_true p137; replace q137 := eq_true q137; have p138 : 0 ≤ ((rd x9_3 x11_4) : Int) := of_decide_eq_true (by first | (with_reducible assumption) | assumption); have q138 : (rd x9_3 x11_4) < (x6_5.length : Int) := of_decide_eq_true (by first | (with_reducible assumption) | assumption); obtain ⟨ad138, e138, hx138_0⟩ := Kd.at_int (Kd.R_reads' HO_6.out).2.2 (rd x9_3 x11_4) p138 q138; obtain rfl : (⟨go24, 0, none⟩ : Addr) = ad138 := (by injection e138); (first | simp only [add_plain] at hx138_0 | simp only [add_at] at hx138_0 | simp only [Addr.add, Nat.zero_add] at hx138_0 | skip); replace p138 := eq_true p138; replace q138 := eq_true q138; have p45 : 0 ≤ (t134 : Int) := of_decide_eq_true (by first | (with_reducible assumption) | assumption); have q45 : (t134 : Int) < ((x6_5.length : Int) : Int) := of_decide_eq_true (by first | (with_reducible assumption) | assumption); obtain ⟨hx45_0, hf45_0⟩ := Kd.R_celln 0 HO_6.out (t134 : Int) p45 q45; replace p45 := eq_true p45; replace q45 := eq_true q45; obtain ⟨hy47_, hz47_⟩ := Kd.R_celln 0 HO_6.out (t134 : Int) (of_decide_eq_true (by first | (with_reducible assumption) | assumption)) (of_decide_eq_true (by first | (with_reducible assumption) | assumption)); have HP47 := Kd.R_putg HO_6.out (t134 : Int) (wrap64 ((rd x6_5 (rd x9_3 x11_4)) + 1))) | ((with_reducible refine gate_store (t := 3) (p := 96) rfl ?_); (try (rw [drewN_self wr]; generalize hq_ : World.drewN wr _ = wr; have n0_ := Aside0.mk (Kd.R_at hq_ HO_6.out); have n1_ := Aside0.mk (Kd.R_at hq_ HO_9.out); have n2_ := Aside0.mk (Kd.R_at hq_ HO_10.out); have n3_ := Aside0.mk (below_at hq_ HB.out); clear hq_ HO_6 HO_9 HO_10 HB; have HO_6 := n0_; have HO_9 := n1_; have HO_10 := n2_; have HB := n3_; clear n0_ n1_ n2_ n3_; (try (obtain ⟨hy47_, hz47_⟩ := Kd.R_celln 0 HO_6.out (t134 : Int) (of_decide_eq_true (by first | (with_reducible assumption) | assumption)) (of_decide_eq_true (by first | (with_reducible assumption) | assumption)))); (try (have HP47 := Kd.R_putg HO_6.out (t134 : Int) (wrap64 ((rd x6_5 (rd x9_3 x11_4)) + 1)))))); refine store_event (t := 3) (p := 96) (v := ?vo_w48) (w1 := (wr.setCell ⟨go24, (t134 : Int).toNat, none⟩ (.int .i64 (wrap64 ((rd x6_5 (rd x9_3 x11_4)) + 1))))) ?hg ?ho ?hn ?hr ?_; (case ho => rfl); (case hg => rfl); (case hn => rfl); (case hr => first | (go_simp; done) | (go_simp; rfl)); intro w48 hw; have hg : wr.grownBy w48 (some go24) := (by rw [hw]; exact HP47.2); have hp_ : Kd.R (Kd.int .i64) 3 w48 w.heap.size (fun k_ => some k_ ≠ (.slice (some ad133) x9_3.length co31 : Value).ownBlock ∧ some k_ ≠ (u10 : Value).ownBlock) (.slice (some ⟨go24, 0, none⟩) x6_5.length co25) y139 := (by rw [hw, Ny139.out]; exact HP47.1); clear HP47; have n0_ := Aside0.mk (hp_); have n1_ := Aside0.mk (Kd.R_after (v := (.slice (some ⟨go24, 0, none⟩) x6_5.length co25)) (v1 := (.slice (some ⟨go24, 0, none⟩) x6_5.length co25)) (ok := (fun k_ => some k_ ≠ (u10 : Value).ownBlock)) (by (with_reducible repeat (first | apply Kd.R_alloc | apply Kd.R_drewN | apply Kd.R_drew)); exact Kd.R_mono HO_9.out (fun _ hk => ⟨hk.2, hk.1⟩)) hg (.inl rfl)); have n2_ := Aside0.mk (Kd.R_after (v := (.slice (some ⟨go24, 0, none⟩) x6_5.length co25)) (v1 := (.slice (some ⟨go24, 0, none⟩) x6_5.length co25)) (ok := (fun k_ => some k_ ≠ (.slice (some ad133) x9_3.length co31 : Value).ownBlock)) (by (with_reducible repeat (first | apply Kd.R_alloc | apply Kd.R_drewN | apply Kd.R_drew)); exact Kd.R_mono HO_10.out (fun _ hk => ⟨hk.2, hk.1⟩)) hg (.inl rfl)); have n3_ := Aside0.mk ((by rw [hw]; exact below_set (HB.out) GB24.out : Below w.heap.size w w48)); clear HO_6; clear HO_9; clear HO_10; clear HB; have HO_6 := n0_; have HO_9 := n1_; have HO_10 := n2_; have HB := n3_; clear n0_ n1_ n2_ n3_; clear hg hw hp_) | ((with_reducible refine gate_builtin (b := .append) (xs := #[.tmp 97, .tmp 99]) rfl ?_); at_builtin; refine Kd.R_append (Kd.int .i64) (w0 := w) w.heap.size rfl (.tmp 97) (.tmp 99) 23 3 (.int .i64 0) 8 rfl Try.underlying23 info3 rfl (by decide) (by omega) u10 x10_5 t134 [.int .i64 t134] (fun k_ => some k_ ≠ (.slice (some ⟨go24, 0, none⟩) x6_5.length co25 : Value).ownBlock ∧ some k_ ≠ (.slice (some ad133) x9_3.length co31 : Value).ownBlock) (fun _ => False) rfl rfl ?aP (fun _ hk => hk.elim) ?aF ?aO ?aB ?aS ?aL ?_; (case aP => exact rfl); (case aB => exact (by repeat (first | (with_reducible first | exact HB.out | apply below_alloc | apply pw_below_drewN | apply below_drew1) | exact HB.out))); (case aF => exact (fun k_ hk => ⟨Kd.fresh' (Kd.R_lt (by (with_reducible repeat (first | apply Kd.R_alloc | apply Kd.R_drewN | apply Kd.R_drew)); exact HO_6.out)) k_ hk, Kd.fresh' (Kd.R_lt (by (with_reducible repeat (first | apply Kd.R_alloc | apply Kd.R_drewN | apply Kd.R_drew)); exact HO_9.out)) k_ hk⟩)); (case aO => exact (by (with_reducible repeat (first | apply Kd.R_alloc | apply Kd.R_drewN | apply Kd.R_drew)); exact Kd.R_mono HO_10.out (fun _ hk => ⟨hk.2, hk.1⟩))); (case aS => exact (below_size (by repeat (first | (with_reducible first | exact HB.out | apply below_alloc | apply pw_below_drewN | apply below_drew1) | exact HB.out)))); (case aL => have := LMc46.out; omega); intro v141 w49 ho hb hg hat; rw [← Ny140.out] at ho; have n0_ := Aside0.mk (Kd.R_after (ok := (fun k_ => some k_ ≠ (.slice (some ad133) x9_3.length co31 : Value).ownBlock)) (by (with_reducible repeat (first | apply Kd.R_alloc | apply Kd.R_drewN | apply Kd.R_drew)); exact HO_6.out) hg hat); have n1_ := Aside0.mk (Kd.R_after (ok := (fun k_ => some k_ ≠ (.slice (some ⟨go24, 0, none⟩) x6_5.length co25 : Value).ownBlock)) (by (with_reducible repeat (first | apply Kd.R_alloc | apply Kd.R_drewN | apply Kd.R_drew)); exact Kd.R_mono HO_9.out (fun _ hk => ⟨hk.2, hk.1⟩)) hg hat); have n2_ := Aside0.mk (hb); have n3_ := Aside0.mk (ho); clear HO_6; clear HO_9; clear HB; clear HO_10; have HO_6 := n0_; have HO_9 := n1_; have HB := n2_; have HO142 := n3_; clear n0_ n1_ n2_ n3_; clear ho hb hg hat))
                                                                        repeat (go_quiet (first | (go_at_call 29; (with_reducible refine (backstepref44_after.calls k5 a0 (rd x9_3 x11_4) x12_5 t134 _ A36.out).mono ?_); rintro e w' ⟨rfl, ⟨nd, rfl⟩⟩; (try first | exact ⟨rfl, _, World.drewN_drewN _ _ _⟩ | exact ⟨rfl, _, Eq.trans (World.drewN_drewN _ _ _) (congrArg (World.drewN _) (Nat.add_assoc _ _ _))⟩); have p135 : 0 ≤ (t134 : Int) := of_decide_eq_true (by first | (with_reducible assumption) | assumption); have q135 : t134 < (x6_5.length : Int) := of_decide_eq_true (by first | (with_reducible assumption) | assumption); obtain ⟨ad135, e135, hx135_0⟩ := Kd.at_int (Kd.R_reads' HO_6.out).2.2 t134 p135 q135; obtain rfl : (⟨go24, 0, none⟩ : Addr) = ad135 := (by injection e135); (first | simp only [add_plain] at hx135_0 | simp only [add_at] at hx135_0 | simp only [Addr.add, Nat.zero_add] at hx135_0 | skip); replace p135 := eq_true p135; replace q135 := eq_true q135) | (go_at_call 30; (with_reducible refine (backstepref44_count.calls k5 t134 t136 _ A41.out).mono ?_); rintro e w' ⟨rfl, ⟨nd, rfl⟩⟩; (try first | exact ⟨rfl, _, World.drewN_drewN _ _ _⟩ | exact ⟨rfl, _, Eq.trans (World.drewN_drewN _ _ _) (congrArg (World.drewN _) (Nat.add_assoc _ _ _))⟩); have p137 : 0 ≤ (x11_4 : Int) := of_decide_eq_true (by first | (with_reducible assumption) | assumption); have q137 : x11_4 < (x9_3.length : Int) := of_decide_eq_true (by first | (with_reducible assumption) | assumption); obtain ⟨ad137, e137, hx137_0⟩ := Kd.at_int (Kd.R_reads' HO_9.out).2.2 x11_4 p137 q137; obtain rfl : ad133 = ad137 := (by injection e137); replace p137 := eq_true p137; replace q137 := eq_true q137; have p138 : 0 ≤ ((rd x9_3 x11_4) : Int) := of_decide_eq_true (by first | (with_reducible assumption) | assumption); have q138 : (rd x9_3 x11_4) < (x6_5.length : Int) := of_decide_eq_true (by first | (with_reducible assumption) | assumption); obtain ⟨ad138, e138, hx138_0⟩ := Kd.at_int (Kd.R_reads' HO_6.out).2.2 (rd x9_3 x11_4) p138 q138; obtain rfl : (⟨go24, 0, none⟩ : Addr) = ad138 := (by injection e138); (first | simp only [add_plain] at hx138_0 | simp only [add_at] at hx138_0 | simp only [Addr.add, Nat.zero_add] at hx138_0 | skip); replace p138 := eq_true p138; replace q138 := eq_true q138; have p45 : 0 ≤ (t134 : Int) := of_decide_eq_true (by first | (with_reducible assumption) | assumption); have q45 : (t134 : Int) < ((x6_5.length : Int) : Int) := of_decide_eq_true (by first | (with_reducible assumption) | assumption); obtain ⟨hx45_0, hf45_0⟩ := Kd.R_celln 0 HO_6.out (t134 : Int) p45 q45; replace p45 := eq_true p45; replace q45 := eq_true q45; obtain ⟨hy47_, hz47_⟩ := Kd.R_celln 0 HO_6.out (t134 : Int) (of_decide_eq_true (by first | (with_reducible assumption) | assumption)) (of_decide_eq_true (by first | (with_reducible assumption) | assumption)); have HP47 := Kd.R_putg HO_6.out (t134 : Int) (wrap64 ((rd x6_5 (rd x9_3 x11_4)) + 1))) | ((with_reducible refine gate_store (t := 3) (p := 96) rfl ?_); (try (rw [drewN_self wr]; generalize hq_ : World.drewN wr _ = wr; have n0_ := Aside0.mk (Kd.R_at hq_ HO_6.out); have n1_ := Aside0.mk (Kd.R_at hq_ HO_9.out); have n2_ := Aside0.mk (Kd.R_at hq_ HO_10.out); have n3_ := Aside0.mk (below_at hq_ HB.out); clear hq_ HO_6 HO_9 HO_10 HB; have HO_6 := n0_; have HO_9 := n1_; have HO_10 := n2_; have HB := n3_; clear n0_ n1_ n2_ n3_; (try (obtain ⟨hy47_, hz47_⟩ := Kd.R_celln 0 HO_6.out (t134 : Int) (of_decide_eq_true (by first | (with_reducible assumption) | assumption)) (of_decide_eq_true (by first | (with_reducible assumption) | assumption)))); (try (have HP47 := Kd.R_putg HO_6.out (t134 : Int) (wrap64 ((rd x6_5 (rd x9_3 x11_4)) + 1)))))); refine store_event (t := 3) (p := 96) (v := ?vo_w48) (w1 := (wr.setCell ⟨go24, (t134 : Int).toNat, none⟩ (.int .i64 (wrap64 ((rd x6_5 (rd x9_3 x11_4)) + 1))))) ?hg ?ho ?hn ?hr ?_; (case ho => rfl); (case hg => rfl); (case hn => rfl); (case hr => first | (go_simp; done) | (go_simp; rfl)); intro w48 hw; have hg : wr.grownBy w48 (some go24) := (by rw [hw]; exact HP47.2); have hp_ : Kd.R (Kd.int .i64) 3 w48 w.heap.size (fun k_ => some k_ ≠ (.slice (some ad133) x9_3.length co31 : Value).ownBlock ∧ some k_ ≠ (u10 : Value).ownBlock) (.slice (some ⟨go24, 0, none⟩) x6_5.length co25) y139 := (by rw [hw, Ny139.out]; exact HP47.1); clear HP47; have n0_ := Aside0.mk (hp_); have n1_ := Aside0.mk (Kd.R_after (v := (.slice (some ⟨go24, 0, none⟩) x6_5.length co25)) (v1 := (.slice (some ⟨go24, 0, none⟩) x6_5.length co25)) (ok := (fun k_ => some k_ ≠ (u10 : Value).ownBlock)) (by (with_reducible repeat (first | apply Kd.R_alloc | apply Kd.R_drewN | apply Kd.R_drew)); exact Kd.R_mono HO_9.out (fun _ hk => ⟨hk.2, hk.1⟩)) hg (.inl rfl)); have n2_ := Aside0.mk (Kd.R_after (v := (.slice (some ⟨go24, 0, none⟩) x6_5.length co25)) (v1 := (.slice (some ⟨go24, 0, none⟩) x6_5.length co25)) (ok := (fun k_ => some k_ ≠ (.slice (some ad133) x9_3.length co31 : Value).ownBlock)) (by (with_reducible repeat (first | apply Kd.R_alloc | apply Kd.R_drewN | apply Kd.R_drew)); exact Kd.R_mono HO_10.out (fun _ hk => ⟨hk.2, hk.1⟩)) hg (.inl rfl)); have n3_ := Aside0.mk ((by rw [hw]; exact below_set (HB.out) GB24.out : Below w.heap.size w w48)); clear HO_6; clear HO_9; clear HO_10; clear HB; have HO_6 := n0_; have HO_9 := n1_; have HO_10 := n2_; have HB := n3_; clear n0_ n1_ n2_ n3_; clear hg hw hp_) | ((with_reducible refine gate_builtin (b := .append) (xs := #[.tmp 97, .tmp 99]) rfl ?_); at_builtin; refine Kd.R_append (Kd.int .i64) (w0 := w) w.heap.size rfl (.tmp 97) (.tmp 99) 23 3 (.int .i64 0) 8 rfl Try.underlying23 info3 rfl (by decide) (by omega) u10 x10_5 t134 [.int .i64 t134] (fun k_ => some k_ ≠ (.slice (some ⟨go24, 0, none⟩) x6_5.length co25 : Value).ownBlock ∧ some k_ ≠ (.slice (some ad133) x9_3.length co31 : Value).ownBlock) (fun _ => False) rfl rfl ?aP (fun _ hk => hk.elim) ?aF ?aO ?aB ?aS ?aL ?_; (case aP => exact rfl); (case aB => exact (by repeat (first | (with_reducible first | exact HB.out | apply below_alloc | apply pw_below_drewN | apply below_drew1) | exact HB.out))); (case aF => exact (fun k_ hk => ⟨Kd.fresh' (Kd.R_lt (by (with_reducible repeat (first | apply Kd.R_alloc | apply Kd.R_drewN | apply Kd.R_drew)); exact HO_6.out)) k_ hk, Kd.fresh' (Kd.R_lt (by (with_reducible repeat (first | apply Kd.R_alloc | apply Kd.R_drewN | apply Kd.R_drew)); exact HO_9.out)) k_ hk⟩)); (case aO => exact (by (with_reducible repeat (first | apply Kd.R_alloc | apply Kd.R_drewN | apply Kd.R_drew)); exact Kd.R_mono HO_10.out (fun _ hk => ⟨hk.2, hk.1⟩))); (case aS => exact (below_size (by repeat (first | (with_reducible first | exact HB.out | apply below_alloc | apply pw_below_drewN | apply below_drew1) | exact HB.out)))); (case aL => have := LMc46.out; omega); intro v141 w49 ho hb hg hat; rw [← Ny140.out] at ho; have n0_ := Aside0.mk (Kd.R_after (ok := (fun k_ => some k_ ≠ (.slice (some ad133) x9_3.length co31 : Value).ownBlock)) (by (with_reducible repeat (first | apply Kd.R_alloc | apply Kd.R_drewN | apply Kd.R_drew)); exact HO_6.out) hg hat); have n1_ := Aside0.mk (Kd.R_after (ok := (fun k_ => some k_ ≠ (.slice (some ⟨go24, 0, none⟩) x6_5.length co25 : Value).ownBlock)) (by (with_reducible repeat (first | apply Kd.R_alloc | apply Kd.R_drewN | apply Kd.R_drew)); exact Kd.R_mono HO_9.out (fun _ hk => ⟨hk.2, hk.1⟩)) hg hat); have n2_ := Aside0.mk (hb); have n3_ := Aside0.mk (ho); clear HO_6; clear HO_9; clear HB; clear HO_10; have HO_6 := n0_; have HO_9 := n1_; have HB := n2_; have HO142 := n3_; clear n0_ n1_ n2_ n3_; clear ho hb hg hat)); try go_wp2_with (first | (go_at_call 29; (with_reducible refine (backstepref44_after.calls k5 a0 (rd x9_3 x11_4) x12_5 t134 _ A36.out).mono ?_); rintro e w' ⟨rfl, ⟨nd, rfl⟩⟩; (try first | exact ⟨rfl, _, World.drewN_drewN _ _ _⟩ | exact ⟨rfl, _, Eq.trans (World.drewN_drewN _ _ _) (congrArg (World.drewN _) (Nat.add_assoc _ _ _))⟩); have p135 : 0 ≤ (t134 : Int) := of_decide_eq_true (by first | (with_reducible assumption) | assumption); have q135 : t134 < (x6_5.length : Int) := of_decide_eq_true (by first | (with_reducible assumption) | assumption); obtain ⟨ad135, e135, hx135_0⟩ := Kd.at_int (Kd.R_reads' HO_6.out).2.2 t134 p135 q135; obtain rfl : (⟨go24, 0, none⟩ : Addr) = ad135 := (by injection e135); (first | simp only [add_plain] at hx135_0 | simp only [add_at] at hx135_0 | simp only [Addr.add, Nat.zero_add] at hx135_0 | skip); replace p135 := eq_true p135; replace q135 := eq_true q135) | (go_at_call 30; (with_reducible refine (backstepref44_count.calls k5 t134 t136 _ A41.out).mono ?_); rintro e w' ⟨rfl, ⟨nd, rfl⟩⟩; (try first | exact ⟨rfl, _, World.drewN_drewN _ _ _⟩ | exact ⟨rfl, _, Eq.trans (World.drewN_drewN _ _ _) (congrArg (World.drewN _) (Nat.add_assoc _ _ _))⟩); have p137 : 0 ≤ (x11_4 : Int) := of_decide_eq_true (by first | (with_reducible assumption) | assumption); have q137 : x11_4 < (x9_3.length : Int) := of_decide_eq_true (by first | (with_reducible assumption) | assumption); obtain ⟨ad137, e137, hx137_0⟩ := Kd.at_int (Kd.R_reads' HO_9.out).2.2 x11_4 p137 q137; obtain rfl : ad133 = ad137 := (by injection e137); replace p137 := eq_true p137; replace q137 := eq_true q137; have p138 : 0 ≤ ((rd x9_3 x11_4) : Int) := of_decide_eq_true (by first | (with_reducible assumption) | assumption); have q138 : (rd x9_3 x11_4) < (x6_5.length : Int) := of_decide_eq_true (by first | (with_reducible assumption) | assumption); obtain ⟨ad138, e138, hx138_0⟩ := Kd.at_int (Kd.R_reads' HO_6.out).2.2 (rd x9_3 x11_4) p138 q138; obtain rfl : (⟨go24, 0, none⟩ : Addr) = ad138 := (by injection e138); (first | simp only [add_plain] at hx138_0 | simp only [add_at] at hx138_0 | simp only [Addr.add, Nat.zero_add] at hx138_0 | skip); replace p138 := eq_true p138; replace q138 := eq_true q138; have p45 : 0 ≤ (t134 : Int) := of_decide_eq_true (by first | (with_reducible assumption) | assumption); have q45 : (t134 : Int) < ((x6_5.length : Int) : Int) := of_decide_eq_true (by first | (with_reducible assumption) | assumption); obtain ⟨hx45_0, hf45_0⟩ := Kd.R_celln 0 HO_6.out (t134 : Int) p45 q45; replace p45 := eq_true p45; replace q45 := eq_true q45; obtain ⟨hy47_, hz47_⟩ := Kd.R_celln 0 HO_6.out (t134 : Int) (of_decide_eq_true (by first | (with_reducible assumption) | assumption)) (of_decide_eq_true (by first | (with_reducible assumption) | assumption)); have HP47 := Kd.R_putg HO_6.out (t134 : Int) (wrap64 ((rd x6_5 (rd x9_3 x11_4)) + 1))) | ((with_reducible refine gate_store (t := 3) (p := 96) rfl ?_); (try (rw [drewN_self wr]; generalize hq_ : World.drewN wr _ = wr; have n0_ := Aside0.mk (Kd.R_at hq_ HO_6.out); have n1_ := Aside0.mk (Kd.R_at hq_ HO_9.out); have n2_ := Aside0.mk (Kd.R_at hq_ HO_10.out); have n3_ := Aside0.mk (below_at hq_ HB.out); clear hq_ HO_6 HO_9 HO_10 HB; have HO_6 := n0_; have HO_9 := n1_; have HO_10 := n2_; have HB := n3_; clear n0_ n1_ n2_ n3_; (try (obtain ⟨hy47_, hz47_⟩ := Kd.R_celln 0 HO_6.out (t134 : Int) (of_decide_eq_true (by first | (with_reducible assumption) | assumption)) (of_decide_eq_true (by first | (with_reducible assumption) | assumption)))); (try (have HP47 := Kd.R_putg HO_6.out (t134 : Int) (wrap64 ((rd x6_5 (rd x9_3 x11_4)) + 1)))))); refine store_event (t := 3) (p := 96) (v := ?vo_w48) (w1 := (wr.setCell ⟨go24, (t134 : Int).toNat, none⟩ (.int .i64 (wrap64 ((rd x6_5 (rd x9_3 x11_4)) + 1))))) ?hg ?ho ?hn ?hr ?_; (case ho => rfl); (case hg => rfl); (case hn => rfl); (case hr => first | (go_simp; done) | (go_simp; rfl)); intro w48 hw; have hg : wr.grownBy w48 (some go24) := (by rw [hw]; exact HP47.2); have hp_ : Kd.R (Kd.int .i64) 3 w48 w.heap.size (fun k_ => some k_ ≠ (.slice (some ad133) x9_3.length co31 : Value).ownBlock ∧ some k_ ≠ (u10 : Value).ownBlock) (.slice (some ⟨go24, 0, none⟩) x6_5.length co25) y139 := (by rw [hw, Ny139.out]; exact HP47.1); clear HP47; have n0_ := Aside0.mk (hp_); have n1_ := Aside0.mk (Kd.R_after (v := (.slice (some ⟨go24, 0, none⟩) x6_5.length co25)) (v1 := (.slice (some ⟨go24, 0, none⟩) x6_5.length co25)) (ok := (fun k_ => some k_ ≠ (u10 : Value).ownBlock)) (by (with_reducible repeat (first | apply Kd.R_alloc | apply Kd.R_drewN | apply Kd.R_drew)); exact Kd.R_mono HO_9.out (fun _ hk => ⟨hk.2, hk.1⟩)) hg (.inl rfl)); have n2_ := Aside0.mk (Kd.R_after (v := (.slice (some ⟨go24, 0, none⟩) x6_5.length co25)) (v1 := (.slice (some ⟨go24, 0, none⟩) x6_5.length co25)) (ok := (fun k_ => some k_ ≠ (.slice (some ad133) x9_3.length co31 : Value).ownBlock)) (by (with_reducible repeat (first | apply Kd.R_alloc | apply Kd.R_drewN | apply Kd.R_drew)); exact Kd.R_mono HO_10.out (fun _ hk => ⟨hk.2, hk.1⟩)) hg (.inl rfl)); have n3_ := Aside0.mk ((by rw [hw]; exact below_set (HB.out) GB24.out : Below w.heap.size w w48)); clear HO_6; clear HO_9; clear HO_10; clear HB; have HO_6 := n0_; have HO_9 := n1_; have HO_10 := n2_; have HB := n3_; clear n0_ n1_ n2_ n3_; clear hg hw hp_) | ((with_reducible refine gate_builtin (b := .append) (xs := #[.tmp 97, .tmp 99]) rfl ?_); at_builtin; refine Kd.R_append (Kd.int .i64) (w0 := w) w.heap.size rfl (.tmp 97) (.tmp 99) 23 3 (.int .i64 0) 8 rfl Try.underlying23 info3 rfl (by decide) (by omega) u10 x10_5 t134 [.int .i64 t134] (fun k_ => some k_ ≠ (.slice (some ⟨go24, 0, none⟩) x6_5.length co25 : Value).ownBlock ∧ some k_ ≠ (.slice (some ad133) x9_3.length co31 : Value).ownBlock) (fun _ => False) rfl rfl ?aP (fun _ hk => hk.elim) ?aF ?aO ?aB ?aS ?aL ?_; (case aP => exact rfl); (case aB => exact (by repeat (first | (with_reducible first | exact HB.out | apply below_alloc | apply pw_below_drewN | apply below_drew1) | exact HB.out))); (case aF => exact (fun k_ hk => ⟨Kd.fresh' (Kd.R_lt (by (with_reducible repeat (first | apply Kd.R_alloc | apply Kd.R_drewN | apply Kd.R_drew)); exact HO_6.out)) k_ hk, Kd.fresh' (Kd.R_lt (by (with_reducible repeat (first | apply Kd.R_alloc | apply Kd.R_drewN | apply Kd.R_drew)); exact HO_9.out)) k_ hk⟩)); (case aO => exact (by (with_reducible repeat (first | apply Kd.R_alloc | apply Kd.R_drewN | apply Kd.R_drew)); exact Kd.R_mono HO_10.out (fun _ hk => ⟨hk.2, hk.1⟩))); (case aS => exact (below_size (by repeat (first | (with_reducible first | exact HB.out | apply below_alloc | apply pw_below_drewN | apply below_drew1) | exact HB.out)))); (case aL => have := LMc46.out; omega); intro v141 w49 ho hb hg hat; rw [← Ny140.out] at ho; have n0_ := Aside0.mk (Kd.R_after (ok := (fun k_ => some k_ ≠ (.slice (some ad133) x9_3.length co31 : Value).ownBlock)) (by (with_reducible repeat (first | apply Kd.R_alloc | apply Kd.R_drewN | apply Kd.R_drew)); exact HO_6.out) hg hat); have n1_ := Aside0.mk (Kd.R_after (ok := (fun k_ => some k_ ≠ (.slice (some ⟨go24, 0, none⟩) x6_5.length co25 : Value).ownBlock)) (by (with_reducible repeat (first | apply Kd.R_alloc | apply Kd.R_drewN | apply Kd.R_drew)); exact Kd.R_mono HO_9.out (fun _ hk => ⟨hk.2, hk.1⟩)) hg hat); have n2_ := Aside0.mk (hb); have n3_ := Aside0.mk (ho); clear HO_6; clear HO_9; clear HB; clear HO_10; have HO_6 := n0_; have HO_9 := n1_; have HB := n2_; have HO142 := n3_; clear n0_ n1_ n2_ n3_; clear ho hb hg hat)))
                                                                        (try simp only [← hl6_5])
                                                                        go_roundg k5
                                                                        case measure => have := HJ2.out; have := HK2.out; have := HK3.out; have := HK4.out; have := HK5.out; omega
                                                                        case rel => exact ⟨(y139), (y140), (wrap64 (x12_5 + 1)), (by first | rfl | (simp; done) | (simp [*]; done)), H', ⟨by have := HJ2.out; have := HK2.out; have := HK3.out; have := HK4.out; have := HK5.out; omega⟩, ⟨by (try simp only [hl6_3]); (try simp only [hl6_4]); (try simp only [hl6_5]); (with_reducible repeat (first | apply Kd.R_alloc | apply Kd.R_drewN | apply Kd.R_drew)); exact HO_6.out⟩, ⟨by (try simp only [hl6_3]); (try simp only [hl6_4]); (try simp only [hl6_5]); (with_reducible repeat (first | apply Kd.R_alloc | apply Kd.R_drewN | apply Kd.R_drew)); exact HO_9.out⟩, ⟨by (try simp only [hl6_3]); (try simp only [hl6_4]); (try simp only [hl6_5]); (with_reducible repeat (first | apply Kd.R_alloc | apply Kd.R_drewN | apply Kd.R_drew)); exact HO142.out⟩, ⟨by repeat (first | (with_reducible first | exact HB.out | apply below_alloc | apply pw_below_drewN | apply below_drew1) | exact HB.out)⟩⟩
                                                                      · rw [if_neg c46] at H
                                                                        exact absurd H (by simp)
                                                                    · rw [if_neg c44] at H
                                                                      exact absurd H (by simp)
                                                                  · rw [if_neg c43] at H
                                                                    exact absurd H (by simp)
                                                                · rw [if_neg c42] at H
                                                                  have c42b0 : decide (t136 ≤ a1) = false := decide_eq_false c42
                                                                  clear c42
                                                                  have H' := Aside0.mk H
                                                                  clear H
                                                                  have p133 : 0 ≤ (x11_4 : Int) := of_decide_eq_true (by first | (with_reducible assumption) | assumption)
                                                                  have q133 : x11_4 < (x9_3.length : Int) := of_decide_eq_true (by first | (with_reducible assumption) | assumption)
                                                                  obtain ⟨ad133, e133, hx133_0⟩ := Kd.at_int (Kd.R_reads' HO_9.out).2.2 x11_4 p133 q133
                                                                  cases e133
                                                                  replace p133 := eq_true p133
                                                                  replace q133 := eq_true q133
                                                                  go_wp2_with (first | (go_at_call 29; (with_reducible refine (backstepref44_after.calls k5 a0 (rd x9_3 x11_4) x12_5 t134 _ A36.out).mono ?_); rintro e w' ⟨rfl, ⟨nd, rfl⟩⟩; (try first | exact ⟨rfl, _, World.drewN_drewN _ _ _⟩ | exact ⟨rfl, _, Eq.trans (World.drewN_drewN _ _ _) (congrArg (World.drewN _) (Nat.add_assoc _ _ _))⟩); have p135 : 0 ≤ (t134 : Int) := of_decide_eq_true (by first | (with_reducible assumption) | assumption); have q135 : t134 < (x6_5.length : Int) := of_decide_eq_true (by first | (with_reducible assumption) | assumption); obtain ⟨ad135, e135, hx135_0⟩ := Kd.at_int (Kd.R_reads' HO_6.out).2.2 t134 p135 q135; obtain rfl : (⟨go24, 0, none⟩ : Addr) = ad135 := (by injection e135); (first | simp only [add_plain] at hx135_0 | simp only [add_at] at hx135_0 | simp only [Addr.add, Nat.zero_add] at hx135_0 | skip); replace p135 := eq_true p135; replace q135 := eq_true q135) | (go_at_call 30; (with_reducible refine (backstepref44_count.calls k5 t134 t136 _ A41.out).mono ?_); rintro e w' ⟨rfl, ⟨nd, rfl⟩⟩; (try first | exact ⟨rfl, _, World.drewN_drewN _ _ _⟩ | exact ⟨rfl, _, Eq.trans (World.drewN_drewN _ _ _) (congrArg (World.drewN _) (Nat.add_assoc _ _ _))⟩)))
                                                                  repeat (go_quiet (first | (go_at_call 29; (with_reducible refine (backstepref44_after.calls k5 a0 (rd x9_3 x11_4) x12_5 t134 _ A36.out).mono ?_); rintro e w' ⟨rfl, ⟨nd, rfl⟩⟩; (try first | exact ⟨rfl, _, World.drewN_drewN _ _ _⟩ | exact ⟨rfl, _, Eq.trans (World.drewN_drewN _ _ _) (congrArg (World.drewN _) (Nat.add_assoc _ _ _))⟩); have p135 : 0 ≤ (t134 : Int) := of_decide_eq_true (by first | (with_reducible assumption) | assumption); have q135 : t134 < (x6_5.length : Int) := of_decide_eq_true (by first | (with_reducible assumption) | assumption); obtain ⟨ad135, e135, hx135_0⟩ := Kd.at_int (Kd.R_reads' HO_6.out).2.2 t134 p135 q135; obtain rfl : (⟨go24, 0, none⟩ : Addr) = ad135 := (by injection e135); (first | simp only [add_plain] at hx135_0 | simp only [add_at] at hx135_0 | simp only [Addr.add, Nat.zero_add] at hx135_0 | skip); replace p135 := eq_true p135; replace q135 := eq_true q135) | (go_at_call 30; (with_reducible refine (backstepref44_count.calls k5 t134 t136 _ A41.out).mono ?_); rintro e w' ⟨rfl, ⟨nd, rfl⟩⟩; (try first | exact ⟨rfl, _, World.drewN_drewN _ _ _⟩ | exact ⟨rfl, _, Eq.trans (World.drewN_drewN _ _ _) (congrArg (World.drewN _) (Nat.add_assoc _ _ _))⟩))); try go_wp2_with (first | (go_at_call 29; (with_reducible refine (backstepref44_after.calls k5 a0 (rd x9_3 x11_4) x12_5 t134 _ A36.out).mono ?_); rintro e w' ⟨rfl, ⟨nd, rfl⟩⟩; (try first | exact ⟨rfl, _, World.drewN_drewN _ _ _⟩ | exact ⟨rfl, _, Eq.trans (World.drewN_drewN _ _ _) (congrArg (World.drewN _) (Nat.add_assoc _ _ _))⟩); have p135 : 0 ≤ (t134 : Int) := of_decide_eq_true (by first | (with_reducible assumption) | assumption); have q135 : t134 < (x6_5.length : Int) := of_decide_eq_true (by first | (with_reducible assumption) | assumption); obtain ⟨ad135, e135, hx135_0⟩ := Kd.at_int (Kd.R_reads' HO_6.out).2.2 t134 p135 q135; obtain rfl : (⟨go24, 0, none⟩ : Addr) = ad135 := (by injection e135); (first | simp only [add_plain] at hx135_0 | simp only [add_at] at hx135_0 | simp only [Addr.add, Nat.zero_add] at hx135_0 | skip); replace p135 := eq_true p135; replace q135 := eq_true q135) | (go_at_call 30; (with_reducible refine (backstepref44_count.calls k5 t134 t136 _ A41.out).mono ?_); rintro e w' ⟨rfl, ⟨nd, rfl⟩⟩; (try first | exact ⟨rfl, _, World.drewN_drewN _ _ _⟩ | exact ⟨rfl, _, Eq.trans (World.drewN_drewN _ _ _) (congrArg (World.drewN _) (Nat.add_assoc _ _ _))⟩))))
                                                                  (try simp only [← hl6_5])
                                                                  go_roundg k5
                                                                  case measure => have := HJ2.out; have := HK2.out; have := HK3.out; have := HK4.out; have := HK5.out; omega
                                                                  case rel => exact ⟨(x6_5), (x10_5), (wrap64 (x12_5 + 1)), (by first | rfl | (simp; done) | (simp [*]; done)), H', ⟨by have := HJ2.out; have := HK2.out; have := HK3.out; have := HK4.out; have := HK5.out; omega⟩, ⟨by (try simp only [hl6_3]); (try simp only [hl6_4]); (try simp only [hl6_5]); (with_reducible repeat (first | apply Kd.R_alloc | apply Kd.R_drewN | apply Kd.R_drew)); exact HO_6.out⟩, ⟨by (try simp only [hl6_3]); (try simp only [hl6_4]); (try simp only [hl6_5]); (with_reducible repeat (first | apply Kd.R_alloc | apply Kd.R_drewN | apply Kd.R_drew)); exact HO_9.out⟩, ⟨by (try simp only [hl6_3]); (try simp only [hl6_4]); (try simp only [hl6_5]); (with_reducible repeat (first | apply Kd.R_alloc | apply Kd.R_drewN | apply Kd.R_drew)); exact HO_10.out⟩, ⟨by repeat (first | (with_reducible first | exact HB.out | apply below_alloc | apply pw_below_drewN | apply below_drew1) | exact HB.out)⟩⟩
                                                              · rw [if_neg c40] at H
                                                                have c40b0 : decide ((rd x6_5 t134) < 0) = false := decide_eq_false c40
                                                                clear c40
                                                                have H' := Aside0.mk H
                                                                clear H
                                                                have p133 : 0 ≤ (x11_4 : Int) := of_decide_eq_true (by first | (with_reducible assumption) | assumption)
                                                                have q133 : x11_4 < (x9_3.length : Int) := of_decide_eq_true (by first | (with_reducible assumption) | assumption)
                                                                obtain ⟨ad133, e133, hx133_0⟩ := Kd.at_int (Kd.R_reads' HO_9.out).2.2 x11_4 p133 q133
                                                                cases e133
                                                                replace p133 := eq_true p133
                                                                replace q133 := eq_true q133
                                                                go_wp2_with (first | (go_at_call 29; (with_reducible refine (backstepref44_after.calls k5 a0 (rd x9_3 x11_4) x12_5 t134 _ A36.out).mono ?_); rintro e w' ⟨rfl, ⟨nd, rfl⟩⟩; (try first | exact ⟨rfl, _, World.drewN_drewN _ _ _⟩ | exact ⟨rfl, _, Eq.trans (World.drewN_drewN _ _ _) (congrArg (World.drewN _) (Nat.add_assoc _ _ _))⟩); have p135 : 0 ≤ (t134 : Int) := of_decide_eq_true (by first | (with_reducible assumption) | assumption); have q135 : t134 < (x6_5.length : Int) := of_decide_eq_true (by first | (with_reducible assumption) | assumption); obtain ⟨ad135, e135, hx135_0⟩ := Kd.at_int (Kd.R_reads' HO_6.out).2.2 t134 p135 q135; obtain rfl : (⟨go24, 0, none⟩ : Addr) = ad135 := (by injection e135); (first | simp only [add_plain] at hx135_0 | simp only [add_at] at hx135_0 | simp only [Addr.add, Nat.zero_add] at hx135_0 | skip); replace p135 := eq_true p135; replace q135 := eq_true q135))
                                                                repeat (go_quiet (first | (go_at_call 29; (with_reducible refine (backstepref44_after.calls k5 a0 (rd x9_3 x11_4) x12_5 t134 _ A36.out).mono ?_); rintro e w' ⟨rfl, ⟨nd, rfl⟩⟩; (try first | exact ⟨rfl, _, World.drewN_drewN _ _ _⟩ | exact ⟨rfl, _, Eq.trans (World.drewN_drewN _ _ _) (congrArg (World.drewN _) (Nat.add_assoc _ _ _))⟩); have p135 : 0 ≤ (t134 : Int) := of_decide_eq_true (by first | (with_reducible assumption) | assumption); have q135 : t134 < (x6_5.length : Int) := of_decide_eq_true (by first | (with_reducible assumption) | assumption); obtain ⟨ad135, e135, hx135_0⟩ := Kd.at_int (Kd.R_reads' HO_6.out).2.2 t134 p135 q135; obtain rfl : (⟨go24, 0, none⟩ : Addr) = ad135 := (by injection e135); (first | simp only [add_plain] at hx135_0 | simp only [add_at] at hx135_0 | simp only [Addr.add, Nat.zero_add] at hx135_0 | skip); replace p135 := eq_true p135; replace q135 := eq_true q135)); try go_wp2_with (first | (go_at_call 29; (with_reducible refine (backstepref44_after.calls k5 a0 (rd x9_3 x11_4) x12_5 t134 _ A36.out).mono ?_); rintro e w' ⟨rfl, ⟨nd, rfl⟩⟩; (try first | exact ⟨rfl, _, World.drewN_drewN _ _ _⟩ | exact ⟨rfl, _, Eq.trans (World.drewN_drewN _ _ _) (congrArg (World.drewN _) (Nat.add_assoc _ _ _))⟩); have p135 : 0 ≤ (t134 : Int) := of_decide_eq_true (by first | (with_reducible assumption) | assumption); have q135 : t134 < (x6_5.length : Int) := of_decide_eq_true (by first | (with_reducible assumption) | assumption); obtain ⟨ad135, e135, hx135_0⟩ := Kd.at_int (Kd.R_reads' HO_6.out).2.2 t134 p135 q135; obtain rfl : (⟨go24, 0, none⟩ : Addr) = ad135 := (by injection e135); (first | simp only [add_plain] at hx135_0 | simp only [add_at] at hx135_0 | simp only [Addr.add, Nat.zero_add] at hx135_0 | skip); replace p135 := eq_true p135; replace q135 := eq_true q135)))
                                                                (try simp only [← hl6_5])
                                                                go_roundg k5
                                                                case measure => have := HJ2.out; have := HK2.out; have := HK3.out; have := HK4.out; have := HK5.out; omega
                                                                case rel => exact ⟨(x6_5), (x10_5), (wrap64 (x12_5 + 1)), (by first | rfl | (simp; done) | (simp [*]; done)), H', ⟨by have := HJ2.out; have := HK2.out; have := HK3.out; have := HK4.out; have := HK5.out; omega⟩, ⟨by (try simp only [hl6_3]); (try simp only [hl6_4]); (try simp only [hl6_5]); (with_reducible repeat (first | apply Kd.R_alloc | apply Kd.R_drewN | apply Kd.R_drew)); exact HO_6.out⟩, ⟨by (try simp only [hl6_3]); (try simp only [hl6_4]); (try simp only [hl6_5]); (with_reducible repeat (first | apply Kd.R_alloc | apply Kd.R_drewN | apply Kd.R_drew)); exact HO_9.out⟩, ⟨by (try simp only [hl6_3]); (try simp only [hl6_4]); (try simp only [hl6_5]); (with_reducible repeat (first | apply Kd.R_alloc | apply Kd.R_drewN | apply Kd.R_drew)); exact HO_10.out⟩, ⟨by repeat (first | (with_reducible first | exact HB.out | apply below_alloc | apply pw_below_drewN | apply below_drew1) | exact HB.out)⟩⟩
                                                            · rw [if_neg c39] at H
                                                              exact absurd H (by simp)
                                                          · rw [if_neg c38] at H
                                                            exact absurd H (by simp)
                                                        · rw [if_neg c37] at H
                                                          have c37b0 : decide (0 ≤ t134) = false := decide_eq_false c37
                                                          clear c37
                                                          have H' := Aside0.mk H
                                                          clear H
                                                          have p133 : 0 ≤ (x11_4 : Int) := of_decide_eq_true (by first | (with_reducible assumption) | assumption)
                                                          have q133 : x11_4 < (x9_3.length : Int) := of_decide_eq_true (by first | (with_reducible assumption) | assumption)
                                                          obtain ⟨ad133, e133, hx133_0⟩ := Kd.at_int (Kd.R_reads' HO_9.out).2.2 x11_4 p133 q133
                                                          cases e133
                                                          replace p133 := eq_true p133
                                                          replace q133 := eq_true q133
                                                          go_wp2_with (first | (go_at_call 29; (with_reducible refine (backstepref44_after.calls k5 a0 (rd x9_3 x11_4) x12_5 t134 _ A36.out).mono ?_); rintro e w' ⟨rfl, ⟨nd, rfl⟩⟩; (try first | exact ⟨rfl, _, World.drewN_drewN _ _ _⟩ | exact ⟨rfl, _, Eq.trans (World.drewN_drewN _ _ _) (congrArg (World.drewN _) (Nat.add_assoc _ _ _))⟩)))
                                                          repeat (go_quiet (first | (go_at_call 29; (with_reducible refine (backstepref44_after.calls k5 a0 (rd x9_3 x11_4) x12_5 t134 _ A36.out).mono ?_); rintro e w' ⟨rfl, ⟨nd, rfl⟩⟩; (try first | exact ⟨rfl, _, World.drewN_drewN _ _ _⟩ | exact ⟨rfl, _, Eq.trans (World.drewN_drewN _ _ _) (congrArg (World.drewN _) (Nat.add_assoc _ _ _))⟩))); try go_wp2_with (first | (go_at_call 29; (with_reducible refine (backstepref44_after.calls k5 a0 (rd x9_3 x11_4) x12_5 t134 _ A36.out).mono ?_); rintro e w' ⟨rfl, ⟨nd, rfl⟩⟩; (try first | exact ⟨rfl, _, World.drewN_drewN _ _ _⟩ | exact ⟨rfl, _, Eq.trans (World.drewN_drewN _ _ _) (congrArg (World.drewN _) (Nat.add_assoc _ _ _))⟩))))
                                                          (try simp only [← hl6_5])
                                                          go_roundg k5
                                                          case measure => have := HJ2.out; have := HK2.out; have := HK3.out; have := HK4.out; have := HK5.out; omega
                                                          case rel => exact ⟨(x6_5), (x10_5), (wrap64 (x12_5 + 1)), (by first | rfl | (simp; done) | (simp [*]; done)), H', ⟨by have := HJ2.out; have := HK2.out; have := HK3.out; have := HK4.out; have := HK5.out; omega⟩, ⟨by (try simp only [hl6_3]); (try simp only [hl6_4]); (try simp only [hl6_5]); (with_reducible repeat (first | apply Kd.R_alloc | apply Kd.R_drewN | apply Kd.R_drew)); exact HO_6.out⟩, ⟨by (try simp only [hl6_3]); (try simp only [hl6_4]); (try simp only [hl6_5]); (with_reducible repeat (first | apply Kd.R_alloc | apply Kd.R_drewN | apply Kd.R_drew)); exact HO_9.out⟩, ⟨by (try simp only [hl6_3]); (try simp only [hl6_4]); (try simp only [hl6_5]); (with_reducible repeat (first | apply Kd.R_alloc | apply Kd.R_drewN | apply Kd.R_drew)); exact HO_10.out⟩, ⟨by repeat (first | (with_reducible first | exact HB.out | apply below_alloc | apply pw_below_drewN | apply below_drew1) | exact HB.out)⟩⟩
                                                      · rw [if_neg c35] at H
                                                        exact absurd H (by simp)
                                                    · rw [if_neg c34] at H
                                                      exact absurd H (by simp)
                                                  · rw [if_neg c33] at H
                                                    have c33b0 : decide (x12_5 ≤ a0) = false := decide_eq_false c33
                                                    clear c33
                                                    have H' := Aside0.mk H
                                                    clear H
                                                    go_wp2
                                                    repeat (go_quiet (fail); try go_wp2)
                                                    (try simp only [← hl6_4, ← hl6_5])
                                                    go_roundg k5
                                                    case measure => have := HJ2.out; have := HK2.out; have := HK3.out; have := HK4.out; have := HK5.out; omega
                                                    case rel => exact ⟨(x6_5), (x10_5), (wrap64 (x11_4 + 1)), (by first | rfl | (simp; done) | (simp [*]; done)), H', ⟨by have := HJ2.out; have := HK2.out; have := HK3.out; have := HK4.out; have := HK5.out; omega⟩, ⟨by (try simp only [hl6_3]); (try simp only [hl6_4]); (try simp only [hl6_5]); (with_reducible repeat (first | apply Kd.R_alloc | apply Kd.R_drewN | apply Kd.R_drew)); exact HO_6.out⟩, ⟨by (try simp only [hl6_3]); (try simp only [hl6_4]); (try simp only [hl6_5]); (with_reducible repeat (first | apply Kd.R_alloc | apply Kd.R_drewN | apply Kd.R_drew)); exact HO_9.out⟩, ⟨by (try simp only [hl6_3]); (try simp only [hl6_4]); (try simp only [hl6_5]); (with_reducible repeat (first | apply Kd.R_alloc | apply Kd.R_drewN | apply Kd.R_drew)); exact HO_10.out⟩, ⟨by repeat (first | (with_reducible first | exact HB.out | apply below_alloc | apply pw_below_drewN | apply below_drew1) | exact HB.out)⟩⟩
                                          · rw [if_neg c32] at H
                                            have c32b0 : decide (x11_4 < (x9_3.length : Int)) = false := decide_eq_false c32
                                            clear c32
                                            have H' := Aside0.mk H
                                            clear H
                                            go_wp2
                                            repeat (go_quiet (fail); try go_wp2)
                                            (try simp only [← hl6_3, ← hl6_4])
                                            go_roundg k4
                                            case measure => have := HJ2.out; have := HK2.out; have := HK3.out; have := HK4.out; omega
                                            case rel => exact ⟨(x6_4), (x10_4), H', ⟨by have := HJ2.out; have := HK2.out; have := HK3.out; have := HK4.out; omega⟩, ⟨by (try simp only [hl6_3]); (try simp only [hl6_4]); (with_reducible repeat (first | apply Kd.R_alloc | apply Kd.R_drewN | apply Kd.R_drew)); exact Kd.R_mono HO_6.out (fun _ hk => hk.2)⟩, ⟨by (try simp only [hl6_3]); (try simp only [hl6_4]); (with_reducible repeat (first | apply Kd.R_alloc | apply Kd.R_drewN | apply Kd.R_drew)); exact Kd.R_mono HO_10.out (fun _ hk => hk.1)⟩, ⟨by repeat (first | (with_reducible first | exact HB.out | apply below_alloc | apply pw_below_drewN | apply below_drew1) | exact HB.out)⟩⟩
                                  · rw [if_neg c30] at H
                                    have c30b0 : decide (0 < (x9_3.length : Int)) = false := decide_eq_false c30
                                    have c30b1 : decide (0 < x9_3.length) = false := decide_eq_false (by omega)
                                    clear c30
                                    by_cases c50 : 0 < (x6_3.length : Int)
                                    · rw [if_pos c50] at H
                                      have c50b0 : decide (0 < (x6_3.length : Int)) = true := decide_eq_true c50
                                      have c50b1 : decide (0 < x6_3.length) = true := decide_eq_true (by omega)
                                      clear c50
                                      by_cases c51 : (rd x6_3 0) < 0
                                      · rw [if_pos c51] at H
                                        have c51b0 : decide ((rd x6_3 0) < 0) = true := decide_eq_true c51
                                        clear c51
                                        simp only [Option.some.injEq, Prod.mk.injEq] at H
                                        obtain ⟨rfl, rfl⟩ := H
                                        obtain ⟨Ao52, co52, eo52⟩ := Kd.R_slice HO_9.out
                                        subst eo52
                                        have p143 : 0 ≤ (0 : Int) := (by omega)
                                        have q143 : 0 < (x6_3.length : Int) := of_decide_eq_true (by first | (with_reducible assumption) | assumption)
                                        obtain ⟨ad143, e143, hx143_0⟩ := Kd.at_int (Kd.R_reads' HO_6.out).2.2 0 p143 q143
                                        obtain rfl : (⟨go24, 0, none⟩ : Addr) = ad143 := (by injection e143)
                                        (first | simp only [add_plain] at hx143_0 | simp only [add_at] at hx143_0 | simp only [Addr.add, Nat.zero_add] at hx143_0 | skip)
                                        have qi143 : (0 < x6_3.length) = True := eq_true (by omega)
                                        (try rw [show ((0 : Int)).toNat = 0 from rfl] at hx143_0)
                                        (try rw [Addr.add_zero'] at hx143_0)
                                        replace p143 := eq_true p143
                                        replace q143 := eq_true q143
                                        go_wp2
                                        repeat (go_quiet (fail); try go_wp2)
                                        go_ret2
                                        exact ⟨_, by first | rfl | (simp [errW_none, errW_some] <;> rfl) | (simp only [← hji8, ← hji19, ← hji21]; first | rfl | (simp [errW_none, errW_some] <;> rfl)) | (simp [*, errW_none, errW_some] <;> rfl), by first | exact Kd.R_nil _ _ _ _ _ | exact Kd.N_nil _ _ _ _ _ | exact Kd.V_nil _ _ _ _ _ | exact Kd.Q_nil _ _ _ _ _ | exact Kd.S_nil _ _ _ _ _, by repeat (first | (with_reducible first | exact HB.out | apply below_alloc | apply pw_below_drewN | apply below_drew1) | exact HB.out)⟩
                                      · rw [if_neg c51] at H
                                        have c51b0 : decide ((rd x6_3 0) < 0) = false := decide_eq_false c51
                                        clear c51
                                        have H' := Aside0.mk H
                                        clear H
                                        obtain ⟨Ao53, co53, eo53⟩ := Kd.R_slice HO_9.out
                                        subst eo53
                                        have p143 : 0 ≤ (0 : Int) := (by omega)
                                        have q143 : 0 < (x6_3.length : Int) := of_decide_eq_true (by first | (with_reducible assumption) | assumption)
                                        obtain ⟨ad143, e143, hx143_0⟩ := Kd.at_int (Kd.R_reads' HO_6.out).2.2 0 p143 q143
                                        obtain rfl : (⟨go24, 0, none⟩ : Addr) = ad143 := (by injection e143)
                                        (first | simp only [add_plain] at hx143_0 | simp only [add_at] at hx143_0 | simp only [Addr.add, Nat.zero_add] at hx143_0 | skip)
                                        have qi143 : (0 < x6_3.length) = True := eq_true (by omega)
                                        (try rw [show ((0 : Int)).toNat = 0 from rfl] at hx143_0)
                                        (try rw [Addr.add_zero'] at hx143_0)
                                        replace p143 := eq_true p143
                                        replace q143 := eq_true q143
                                        go_wp2
                                        repeat (go_quiet (fail); try go_wp2)
                                        go_loopg [14, 15] k3 (fun kq v14 v15 w' => ∃ (x14_4 : List Int) (x15_4 : Int), v15 = .int .i64 x15_4 ∧ Aside0 (backstepref44_Best.l4 kq a0 x6_3 ji21 x14_4 x15_4 = some (r1, r2)) ∧ Aside0 (kq ≤ k3) ∧ Aside0 (Kd.R (Kd.int .i64) 3 w' w.heap.size (fun k_ => some k_ ≠ (v14 : Value).ownBlock) (.slice (some ⟨go24, 0, none⟩) x6_3.length co25) x6_3) ∧ Aside0 (Kd.R (Kd.int .i64) 3 w' w.heap.size (fun k_ => some k_ ≠ ((.slice (some ⟨go24, 0, none⟩) x6_3.length co25) : Value).ownBlock) v14 x14_4) ∧ Aside0 (Below w.heap.size w w'))
                                        case atStart => exact ⟨(([] : List Int)), (0), (by first | rfl | (simp; done) | (simp [*]; done)), H', ⟨Nat.le_refl _⟩, ⟨by (try simp only [hl6_3]); (with_reducible repeat (first | apply Kd.R_alloc | apply Kd.R_drewN | apply Kd.R_drew)); exact Kd.R_mono HO_6.out (fun _ hk => (by simp [Value.ownBlock]))⟩, ⟨by (try simp only [hl6_3]); first | exact Kd.R_nil _ _ _ _ _ | exact Kd.N_nil _ _ _ _ _ | exact Kd.V_nil _ _ _ _ _ | exact Kd.Q_nil _ _ _ _ _ | exact Kd.S_nil _ _ _ _ _⟩, ⟨by repeat (first | (with_reducible first | exact HB.out | apply below_alloc | apply pw_below_drewN | apply below_drew1) | exact HB.out)⟩⟩
                                        case round =>
                                          as_aux_lemma =>
                                            clear H'
                                            try clear c1
                                            try clear p1
                                            try clear q1
                                            try clear hx1
                                            try clear qi1
                                            try clear c2
                                            try clear p2
                                            try clear q2
                                            try clear hx2
                                            try clear hf2
                                            try clear c3
                                            try clear c4
                                            try clear c4b0
                                            try clear p4
                                            try clear q4
                                            try clear hx4
                                            try clear hf4
                                            try clear c5
                                            try clear c5b0
                                            try clear c6
                                            try clear p6
                                            try clear c7
                                            try clear c7b0
                                            try clear c7b1
                                            try clear c9
                                            try clear c9b0
                                            try clear c9b1
                                            try clear c10
                                            try clear c10b0
                                            try clear c10b1
                                            try clear c13
                                            try clear c13b0
                                            try clear p13
                                            try clear q13
                                            try clear hx13
                                            try clear c14
                                            try clear c14b0
                                            try clear p14
                                            try clear q14
                                            try clear hx14
                                            try clear qi14
                                            try clear p15
                                            try clear q15
                                            try clear hx15
                                            try clear hf15
                                            try clear c16
                                            try clear c20
                                            try clear c20b0
                                            try clear c20b1
                                            try clear c22
                                            try clear c22b0
                                            try clear c23
                                            try clear c23b0
                                            try clear p24
                                            try clear q24
                                            try clear hx24
                                            try clear hf24
                                            try clear c30
                                            try clear c30b0
                                            try clear c30b1
                                            try clear c32
                                            try clear c32b0
                                            try clear c33
                                            try clear c33b0
                                            try clear c34
                                            try clear c34b0
                                            try clear c35
                                            try clear c35b0
                                            try clear c37
                                            try clear c37b0
                                            try clear c38
                                            try clear c38b0
                                            try clear c39
                                            try clear c39b0
                                            try clear c40
                                            try clear c40b0
                                            try clear c42
                                            try clear c42b0
                                            try clear c43
                                            try clear c43b0
                                            try clear c44
                                            try clear c44b0
                                            try clear p45
                                            try clear q45
                                            try clear hx45
                                            try clear hf45
                                            try clear c46
                                            try clear c50
                                            try clear c50b0
                                            try clear c50b1
                                            try clear c51
                                            try clear c51b0
                                            try clear hx133_0
                                            try clear hx135_0
                                            try clear hx137_0
                                            try clear hx138_0
                                            try clear hx143_0
                                            try clear hx15_0
                                            try clear hx24_0
                                            try clear hx45_0
                                            try clear p1
                                            try clear p133
                                            try clear p135
                                            try clear p137
                                            try clear p138
                                            try clear p143
                                            try clear p15
                                            try clear p2
                                            try clear p24
                                            try clear p45
                                            try clear p6
                                            try clear q1
                                            try clear q133
                                            try clear q135
                                            try clear q137
                                            try clear q138
                                            try clear q143
                                            try clear q15
                                            try clear q2
                                            try clear q24
                                            try clear q45
                                            obtain ⟨x14_4, x15_4, rfl, HA, HK4, HO_6, HO_14, HB⟩ := hrel
                                            cases gk with
                                            | zero => exact absurd HA.out (by simp [backstepref44_Best.l4])
                                            | succ k4 =>
                                              have H := HA.out
                                              clear HA
                                              simp only [backstepref44_Best.l4] at H
                                              by_cases c54 : x15_4 = ji21
                                              · rw [if_pos c54] at H
                                                have c54b0 : (x15_4 == ji21) = true := beq_iff_eq.mpr c54
                                                have c54b1 : (x15_4 != ji21) = false := bne_eq_false_iff_eq.mpr c54
                                                clear c54
                                                simp only [Option.some.injEq, Prod.mk.injEq] at H
                                                obtain ⟨rfl, rfl⟩ := H
                                                go_wp2
                                                repeat (go_quiet (fail); try go_wp2)
                                                go_ret2
                                                exact ⟨_, by first | rfl | (simp [errW_none, errW_some] <;> rfl) | (simp only [← hji8, ← hji19, ← hji21]; first | rfl | (simp [errW_none, errW_some] <;> rfl)) | (simp [*, errW_none, errW_some] <;> rfl), by (with_reducible repeat (first | apply Kd.R_alloc | apply Kd.R_drewN | apply Kd.R_drew)); exact Kd.R_mono HO_14.out (fun _ hk => trivial), by repeat (first | (with_reducible first | exact HB.out | apply below_alloc | apply pw_below_drewN | apply below_drew1) | exact HB.out)⟩
                                              · rw [if_neg c54] at H
                                                have c54b0 : (x15_4 == ji21) = false := beq_eq_false_iff_ne.mpr c54
                                                have c54b1 : (x15_4 != ji21) = true := bne_iff_ne.mpr c54
                                                have H' := Aside0.mk H
                                                clear H
                                                go_wp2
                                                repeat (go_quiet (fail); try go_wp2)
                                                go_loopg [14, 15, 16] k4 (fun kq v14 v15 v16 w' => ∃ (x14_5 : List Int) (x15_5 : Int) (x16_5 : Int), v15 = .int .i64 x15_5 ∧ v16 = .int .i64 x16_5 ∧ Aside0 (backstepref44_Best.l5 kq a0 x6_3 ji21 x14_5 x15_5 x16_5 = some (r1, r2)) ∧ Aside0 (kq ≤ k4) ∧ Aside0 (Kd.R (Kd.int .i64) 3 w' w.heap.size (fun k_ => some k_ ≠ (v14 : Value).ownBlock) (.slice (some ⟨go24, 0, none⟩) x6_3.length co25) x6_3) ∧ Aside0 (Kd.R (Kd.int .i64) 3 w' w.heap.size (fun k_ => some k_ ≠ ((.slice (some ⟨go24, 0, none⟩) x6_3.length co25) : Value).ownBlock) v14 x14_5) ∧ Aside0 (Below w.heap.size w w'))
                                                case atStart => exact ⟨(x14_4), (x15_4), (wrap64 (-a0)), (by first | rfl | (simp; done) | (simp [*]; done)), (by first | rfl | (simp; done) | (simp [*]; done)), H', ⟨Nat.le_refl _⟩, ⟨by (try simp only [hl6_3]); (with_reducible repeat (first | apply Kd.R_alloc | apply Kd.R_drewN | apply Kd.R_drew)); exact HO_6.out⟩, ⟨by (try simp only [hl6_3]); (with_reducible repeat (first | apply Kd.R_alloc | apply Kd.R_drewN | apply Kd.R_drew)); exact HO_14.out⟩, ⟨by repeat (first | (with_reducible first | exact HB.out | apply below_alloc | apply pw_below_drewN | apply below_drew1) | exact HB.out)⟩⟩
                                                case round =>
                                                  as_aux_lemma =>
                                                    clear H'
                                                    try clear c1
                                                    try clear p1
                                                    try clear q1
                                                    try clear hx1
                                                    try clear qi1
                                                    try clear c2
                                                    try clear p2
                                                    try clear q2
                                                    try clear hx2
                                                    try clear hf2
                                                    try clear c3
                                                    try clear c4
                                                    try clear c4b0
                                                    try clear p4
                                                    try clear q4
                                                    try clear hx4
                                                    try clear hf4
                                                    try clear c5
                                                    try clear c5b0
                                                    try clear c6
                                                    try clear p6
                                                    try clear c7
                                                    try clear c7b0
                                                    try clear c7b1
                                                    try clear c9
                                                    try clear c9b0
                                                    try clear c9b1
                                                    try clear c10
                                                    try clear c10b0
                                                    try clear c10b1
                                                    try clear c13
                                                    try clear c13b0
                                                    try clear p13
                                                    try clear q13
                                                    try clear hx13
                                                    try clear c14
                                                    try clear c14b0
                                                    try clear p14
                                                    try clear q14
                                                    try clear hx14
                                                    try clear qi14
                                                    try clear p15
                                                    try clear q15
                                                    try clear hx15
                                                    try clear hf15
                                                    try clear c16
                                                    try clear c20
                                                    try clear c20b0
                                                    try clear c20b1
                                                    try clear c22
                                                    try clear c22b0
                                                    try clear c23
                                                    try clear c23b0
                                                    try clear p24
                                                    try clear q24
                                                    try clear hx24
                                                    try clear hf24
                                                    try clear c30
                                                    try clear c30b0
                                                    try clear c30b1
                                                    try clear c32
                                                    try clear c32b0
                                                    try clear c33
                                                    try clear c33b0
                                                    try clear c34
                                                    try clear c34b0
                                                    try clear c35
                                                    try clear c35b0
                                                    try clear c37
                                                    try clear c37b0
                                                    try clear c38
                                                    try clear c38b0
                                                    try clear c39
                                                    try clear c39b0
                                                    try clear c40
                                                    try clear c40b0
                                                    try clear c42
                                                    try clear c42b0
                                                    try clear c43
                                                    try clear c43b0
                                                    try clear c44
                                                    try clear c44b0
                                                    try clear p45
                                                    try clear q45
                                                    try clear hx45
                                                    try clear hf45
                                                    try clear c46
                                                    try clear c50
                                                    try clear c50b0
                                                    try clear c50b1
                                                    try clear c51
                                                    try clear c51b0
                                                    try clear c54
                                                    try clear c54b0
                                                    try clear c54b1
                                                    try clear hx133_0
                                                    try clear hx135_0
                                                    try clear hx137_0
                                                    try clear hx138_0
                                                    try clear hx143_0
                                                    try clear hx15_0
                                                    try clear hx24_0
                                                    try clear hx45_0
                                                    try clear p1
                                                    try clear p13
                                                    try clear p133
                                                    try clear p135
                                                    try clear p137
                                                    try clear p138
                                                    try clear p14
                                                    try clear p143
                                                    try clear p15
                                                    try clear p2
                                                    try clear p24
                                                    try clear p4
                                                    try clear p45
                                                    try clear p6
                                                    try clear q1
                                                    try clear q13
                                                    try clear q133
                                                    try clear q135
                                                    try clear q137
                                                    try clear q138
                                                    try clear q14
                                                    try clear q143
                                                    try clear q15
                                                    try clear q2
                                                    try clear q24
                                                    try clear q4
                                                    try clear q45
                                                    obtain ⟨x14_5, x15_5, x16_5, rfl, rfl, HA, HK5, HO_6, HO_14, HB⟩ := hrel
                                                    cases gk with
                                                    | zero => exact absurd HA.out (by simp [backstepref44_Best.l5])
                                                    | succ k5 =>
                                                      have H := HA.out
                                                      clear HA
                                                      simp only [backstepref44_Best.l5] at H
                                                      by_cases c55 : x16_5 ≤ a0
                                                      · rw [if_pos c55] at H
                                                        have c55b0 : decide (x16_5 ≤ a0) = true := decide_eq_true c55
                                                        clear c55
                                                        replace H := Option.bind_eq_some_iff.mp H
                                                        obtain ⟨t144, A560, H⟩ := H
                                                        replace H : (if t144 ≥ 0 then (if 0 ≤ t144 then (if t144 < (x6_3.length : Int) then (if (rd x6_3 t144) ≥ 0 then (if 0 ≤ x15_5 then (if x15_5 < (x6_3.length : Int) then (if (rd x6_3 t144) = (wrap64 ((rd x6_3 x15_5) - 1)) then (if x14_5.length < 17592186044416 then (backstepref44_Best.l4 k5 a0 x6_3 ji21 (x14_5 ++ [x16_5]) t144) else (none)) else (backstepref44_Best.l5 k5 a0 x6_3 ji21 x14_5 x15_5 (wrap64 (x16_5 + 1)))) else (none)) else (none)) else (backstepref44_Best.l5 k5 a0 x6_3 ji21 x14_5 x15_5 (wrap64 (x16_5 + 1)))) else (none)) else (none)) else (backstepref44_Best.l5 k5 a0 x6_3 ji21 x14_5 x15_5 (wrap64 (x16_5 + 1)))) = some (r1, r2) := H
                                                        have A56 := Aside0.mk A560
                                                        clear A560
                                                        by_cases c57 : t144 ≥ 0
                                                        · rw [if_pos c57] at H
                                                          have c57b0 : decide (0 ≤ t144) = true := decide_eq_true c57
                                                          clear c57
                                                          by_cases c58 : 0 ≤ t144
                                                          · rw [if_pos c58] at H
                                                            have c58b0 : decide (0 ≤ t144) = true := decide_eq_true c58
                                                            clear c58
                                                            by_cases c59 : t144 < (x6_3.length : Int)
                                                            · rw [if_pos c59] at H
                                                              have c59b0 : decide (t144 < (x6_3.length : Int)) = true := decide_eq_true c59
                                                              clear c59
                                                              by_cases c60 : (rd x6_3 t144) ≥ 0
                                                              · rw [if_pos c60] at H
                                                                have c60b0 : decide (0 ≤ (rd x6_3 t144)) = true := decide_eq_true c60
                                                                clear c60
                                                                by_cases c61 : 0 ≤ x15_5
                                                                · rw [if_pos c61] at H
                                                                  have c61b0 : decide (0 ≤ x15_5) = true := decide_eq_true c61
                                                                  clear c61
                                                                  by_cases c62 : x15_5 < (x6_3.length : Int)
                                                                  · rw [if_pos c62] at H
                                                                    have c62b0 : decide (x15_5 < (x6_3.length : Int)) = true := decide_eq_true c62
                                                                    clear c62
                                                                    by_cases c63 : (rd x6_3 t144) = (wrap64 ((rd x6_3 x15_5) - 1))
                                                                    · rw [if_pos c63] at H
                                                                      have c63b0 : ((rd x6_3 t144) == (wrap64 ((rd x6_3 x15_5) - 1))) = true := beq_iff_eq.mpr c63
                                                                      have c63b1 : ((rd x6_3 t144) != (wrap64 ((rd x6_3 x15_5) - 1))) = false := bne_eq_false_iff_eq.mpr c63
                                                                      clear c63
                                                                      by_cases c64 : x14_5.length < 17592186044416
                                                                      · rw [if_pos c64] at H
                                                                        have LMc64 := Aside0.mk c64
                                                                        clear c64
                                                                        obtain ⟨y148, hy148⟩ : ∃ y_ : List Int, y_ = (x14_5 ++ [x16_5]) := ⟨_, rfl⟩
                                                                        replace H : (backstepref44_Best.l4 k5 a0 x6_3 ji21 y148 t144) = some (r1, r2) := by first | (rw [hy148]; with_reducible exact H) | (have H2_ := (Option.bind_some _ _).symm.trans H; rw [hy148]; with_reducible exact H2_) | (have H2_ := (Option.bind_some _ _).symm.trans H; with_reducible exact H2_) | with_reducible exact H | (rw [hy148]; exact H) | exact H
                                                                        have Ny148 := Aside0.mk hy148
                                                                        clear hy148
                                                                        have H' := Aside0.mk H
                                                                        clear H
                                                                        go_wp2_with (first | (go_at_call 29; (with_reducible refine (backstepref44_after.calls k5 a0 x15_5 x16_5 t144 _ A56.out).mono ?_); rintro e w' ⟨rfl, ⟨nd, rfl⟩⟩; (try first | exact ⟨rfl, _, World.drewN_drewN _ _ _⟩ | exact ⟨rfl, _, Eq.trans (World.drewN_drewN _ _ _) (congrArg (World.drewN _) (Nat.add_assoc _ _ _))⟩); have p145 : 0 ≤ (t144 : Int) := of_decide_eq_true (by first | (with_reducible assumption) | assumption); have q145 : t144 < (x6_3.length : Int) := of_decide_eq_true (by first | (with_reducible assumption) | assumption); obtain ⟨ad145, e145, hx145_0⟩ := Kd.at_int (Kd.R_reads' HO_6.out).2.2 t144 p145 q145; obtain rfl : (⟨go24, 0, none⟩ : Addr) = ad145 := (by injection e145); (first | simp only [add_plain] at hx145_0 | simp only [add_at] at hx145_0 | simp only [Addr.add, Nat.zero_add] at hx145_0 | skip); replace p145 := eq_true p145; replace q145 := eq_true q145; have p146 : 0 ≤ (t144 : Int) := of_decide_eq_true (by first | (with_reducible assumption) | assumption); have q146 : t144 < (x6_3.length : Int) := of_decide_eq_true (by first | (with_reducible assumption) | assumption); obtain ⟨ad146, e146, hx146_0⟩ := Kd.at_int (Kd.R_reads' HO_6.out).2.2 t144 p146 q146; obtain rfl : (⟨go24, 0, none⟩ : Addr) = ad146 := (by injection e146); (first | simp only [add_plain] at hx146_0 | simp only [add_at] at hx146_0 | simp only [Addr.add, Nat.zero_add] at hx146_0 | skip); replace p146 := eq_true p146; replace q146 := eq_true q146; have p147 : 0 ≤ (x15_5 : Int) := of_decide_eq_true (by first | (with_reducible assumption) | assumption); have q147 : x15_5 < (x6_3.length : Int) := of_decide_eq_true (by first | (with_reducible assumption) | assumption); obtain ⟨ad147, e147, hx147_0⟩ := Kd.at_int (Kd.R_reads' HO_6.out).2.2 x15_5 p147 q147; obtain rfl : (⟨go24, 0, none⟩ : Addr) = ad147 := (by injection e147); (first | simp only [add_plain] at hx147_0 | simp only [add_at] at hx147_0 | simp only [Addr.add, Nat.zero_add] at hx147_0 | skip); replace p147 := eq_true p147; replace q147 := eq_true q147) | ((with_reducible refine gate_builtin (b := .append) (xs := #[.tmp 141, .tmp 143]) rfl ?_); at_builtin; refine Kd.R_append (Kd.int .i64) (w0 := w) w.heap.size rfl (.tmp 141) (.tmp 143) 23 3 (.int .i64 0) 8 rfl Try.underlying23 info3 rfl (by decide) (by omega) u14 x14_5 x16_5 [.int .i64 x16_5] (fun k_ => some k_ ≠ (.slice (some ⟨go24, 0, none⟩) x6_3.length co25 : Value).ownBlock) (fun _ => False) rfl rfl ?aP (fun _ hk => hk.elim) ?aF ?aO ?aB ?aS ?aL ?_; (case aP => exact rfl); (case aB => exact (by repeat (first | (with_reducible first | exact HB.out | apply below_alloc | apply pw_below_drewN | apply below_drew1) | exact HB.out))); (case aF => exact (fun k_ hk => Kd.fresh' (Kd.R_lt (by (with_reducible repeat (first | apply Kd.R_alloc | apply Kd.R_drewN | apply Kd.R_drew)); exact HO_6.out)) k_ hk)); (case aO => exact (by (with_reducible repeat (first | apply Kd.R_alloc | apply Kd.R_drewN | apply Kd.R_drew)); exact HO_14.out)); (case aS => exact (below_size (by repeat (first | (with_reducible first | exact HB.out | apply below_alloc | apply pw_below_drewN | apply below_drew1) | exact HB.out)))); (case aL => have := LMc64.out; omega); intro v149 w65 ho hb hg hat; rw [← Ny148.out] at ho; have n0_ := Aside0.mk (Kd.R_after (ok := (fun _ => True)) (by (with_reducible repeat (first | apply Kd.R_alloc | apply Kd.R_drewN | apply Kd.R_drew)); exact Kd.R_mono HO_6.out (fun _ hk => ⟨trivial, hk⟩)) hg hat); have n1_ := Aside0.mk (hb); have n2_ := Aside0.mk (ho); clear HO_6; clear HB; clear HO_14; have HO_6 := n0_; have HB := n1_; have HO150 := n2_; clear n0_ n1_ n2_; clear ho hb hg hat))
                                                                        repeat (go_quiet (first | (go_at_call 29; (with_reducible refine (backstepref44_after.calls k5 a0 x15_5 x16_5 t144 _ A56.out).mono ?_); rintro e w' ⟨rfl, ⟨nd, rfl⟩⟩; (try first | exact ⟨rfl, _, World.drewN_drewN _ _ _⟩ | exact ⟨rfl, _, Eq.trans (World.drewN_drewN _ _ _) (congrArg (World.drewN _) (Nat.add_assoc _ _ _))⟩); have p145 : 0 ≤ (t144 : Int) := of_decide_eq_true (by first | (with_reducible assumption) | assumption); have q145 : t144 < (x6_3.length : Int) := of_decide_eq_true (by first | (with_reducible assumption) | assumption); obtain ⟨ad145, e145, hx145_0⟩ := Kd.at_int (Kd.R_reads' HO_6.out).2.2 t144 p145 q145; obtain rfl : (⟨go24, 0, none⟩ : Addr) = ad145 := (by injection e145); (first | simp only [add_plain] at hx145_0 | simp only [add_at] at hx145_0 | simp only [Addr.add, Nat.zero_add] at hx145_0 | skip); replace p145 := eq_true p145; replace q145 := eq_true q145; have p146 : 0 ≤ (t144 : Int) := of_decide_eq_true (by first | (with_reducible assumption) | assumption); have q146 : t144 < (x6_3.length : Int) := of_decide_eq_true (by first | (with_reducible assumption) | assumption); obtain ⟨ad146, e146, hx146_0⟩ := Kd.at_int (Kd.R_reads' HO_6.out).2.2 t144 p146 q146; obtain rfl : (⟨go24, 0, none⟩ : Addr) = ad146 := (by injection e146); (first | simp only [add_plain] at hx146_0 | simp only [add_at] at hx146_0 | simp only [Addr.add, Nat.zero_add] at hx146_0 | skip); replace p146 := eq_true p146; replace q146 := eq_true q146; have p147 : 0 ≤ (x15_5 : Int) := of_decide_eq_true (by first | (with_reducible assumption) | assumption); have q147 : x15_5 < (x6_3.length : Int) := of_decide_eq_true (by first | (with_reducible assumption) | assumption); obtain ⟨ad147, e147, hx147_0⟩ := Kd.at_int (Kd.R_reads' HO_6.out).2.2 x15_5 p147 q147; obtain rfl : (⟨go24, 0, none⟩ : Addr) = ad147 := (by injection e147); (first | simp only [add_plain] at hx147_0 | simp only [add_at] at hx147_0 | simp only [Addr.add, Nat.zero_add] at hx147_0 | skip); replace p147 := eq_true p147; replace q147 := eq_true q147) | ((with_reducible refine gate_builtin (b := .append) (xs := #[.tmp 141, .tmp 143]) rfl ?_); at_builtin; refine Kd.R_append (Kd.int .i64) (w0 := w) w.heap.size rfl (.tmp 141) (.tmp 143) 23 3 (.int .i64 0) 8 rfl Try.underlying23 info3 rfl (by decide) (by omega) u14 x14_5 x16_5 [.int .i64 x16_5] (fun k_ => some k_ ≠ (.slice (some ⟨go24, 0, none⟩) x6_3.length co25 : Value).ownBlock) (fun _ => False) rfl rfl ?aP (fun _ hk => hk.elim) ?aF ?aO ?aB ?aS ?aL ?_; (case aP => exact rfl); (case aB => exact (by repeat (first | (with_reducible first | exact HB.out | apply below_alloc | apply pw_below_drewN | apply below_drew1) | exact HB.out))); (case aF => exact (fun k_ hk => Kd.fresh' (Kd.R_lt (by (with_reducible repeat (first | apply Kd.R_alloc | apply Kd.R_drewN | apply Kd.R_drew)); exact HO_6.out)) k_ hk)); (case aO => exact (by (with_reducible repeat (first | apply Kd.R_alloc | apply Kd.R_drewN | apply Kd.R_drew)); exact HO_14.out)); (case aS => exact (below_size (by repeat (first | (with_reducible first | exact HB.out | apply below_alloc | apply pw_below_drewN | apply below_drew1) | exact HB.out)))); (case aL => have := LMc64.out; omega); intro v149 w65 ho hb hg hat; rw [← Ny148.out] at ho; have n0_ := Aside0.mk (Kd.R_after (ok := (fun _ => True)) (by (with_reducible repeat (first | apply Kd.R_alloc | apply Kd.R_drewN | apply Kd.R_drew)); exact Kd.R_mono HO_6.out (fun _ hk => ⟨trivial, hk⟩)) hg hat); have n1_ := Aside0.mk (hb); have n2_ := Aside0.mk (ho); clear HO_6; clear HB; clear HO_14; have HO_6 := n0_; have HB := n1_; have HO150 := n2_; clear n0_ n1_ n2_; clear ho hb hg hat)); try go_wp2_with (first | (go_at_call 29; (with_reducible refine (backstepref44_after.calls k5 a0 x15_5 x16_5 t144 _ A56.out).mono ?_); rintro e w' ⟨rfl, ⟨nd, rfl⟩⟩; (try first | exact ⟨rfl, _, World.drewN_drewN _ _ _⟩ | exact ⟨rfl, _, Eq.trans (World.drewN_drewN _ _ _) (congrArg (World.drewN _) (Nat.add_assoc _ _ _))⟩); have p145 : 0 ≤ (t144 : Int) := of_decide_eq_true (by first | (with_reducible assumption) | assumption); have q145 : t144 < (x6_3.length : Int) := of_decide_eq_true (by first | (with_reducible assumption) | assumption); obtain ⟨ad145, e145, hx145_0⟩ := Kd.at_int (Kd.R_reads' HO_6.out).2.2 t144 p145 q145; obtain rfl : (⟨go24, 0, none⟩ : Addr) = ad145 := (by injection e145); (first | simp only [add_plain] at hx145_0 | simp only [add_at] at hx145_0 | simp only [Addr.add, Nat.zero_add] at hx145_0 | skip); replace p145 := eq_true p145; replace q145 := eq_true q145; have p146 : 0 ≤ (t144 : Int) := of_decide_eq_true (by first | (with_reducible assumption) | assumption); have q146 : t144 < (x6_3.length : Int) := of_decide_eq_true (by first | (with_reducible assumption) | assumption); obtain ⟨ad146, e146, hx146_0⟩ := Kd.at_int (Kd.R_reads' HO_6.out).2.2 t144 p146 q146; obtain rfl : (⟨go24, 0, none⟩ : Addr) = ad146 := (by injection e146); (first | simp only [add_plain] at hx146_0 | simp only [add_at] at hx146_0 | simp only [Addr.add, Nat.zero_add] at hx146_0 | skip); replace p146 := eq_true p146; replace q146 := eq_true q146; have p147 : 0 ≤ (x15_5 : Int) := of_decide_eq_true (by first | (with_reducible assumption) | assumption); have q147 : x15_5 < (x6_3.length : Int) := of_decide_eq_true (by first | (with_reducible assumption) | assumption); obtain ⟨ad147, e147, hx147_0⟩ := Kd.at_int (Kd.R_reads' HO_6.out).2.2 x15_5 p147 q147; obtain rfl : (⟨go24, 0, none⟩ : Addr) = ad147 := (by injection e147); (first | simp only [add_plain] at hx147_0 | simp only [add_at] at hx147_0 | simp only [Addr.add, Nat.zero_add] at hx147_0 | skip); replace p147 := eq_true p147; replace q147 := eq_true q147) | ((with_reducible refine gate_builtin (b := .append) (xs := #[.tmp 141, .tmp 143]) rfl ?_); at_builtin; refine Kd.R_append (Kd.int .i64) (w0 := w) w.heap.size rfl (.tmp 141) (.tmp 143) 23 3 (.int .i64 0) 8 rfl Try.underlying23 info3 rfl (by decide) (by omega) u14 x14_5 x16_5 [.int .i64 x16_5] (fun k_ => some k_ ≠ (.slice (some ⟨go24, 0, none⟩) x6_3.length co25 : Value).ownBlock) (fun _ => False) rfl rfl ?aP (fun _ hk => hk.elim) ?aF ?aO ?aB ?aS ?aL ?_; (case aP => exact rfl); (case aB => exact (by repeat (first | (with_reducible first | exact HB.out | apply below_alloc | apply pw_below_drewN | apply below_drew1) | exact HB.out))); (case aF => exact (fun k_ hk => Kd.fresh' (Kd.R_lt (by (with_reducible repeat (first | apply Kd.R_alloc | apply Kd.R_drewN | apply Kd.R_drew)); exact HO_6.out)) k_ hk)); (case aO => exact (by (with_reducible repeat (first | apply Kd.R_alloc | apply Kd.R_drewN | apply Kd.R_drew)); exact HO_14.out)); (case aS => exact (below_size (by repeat (first | (with_reducible first | exact HB.out | apply below_alloc | apply pw_below_drewN | apply below_drew1) | exact HB.out)))); (case aL => have := LMc64.out; omega); intro v149 w65 ho hb hg hat; rw [← Ny148.out] at ho; have n0_ := Aside0.mk (Kd.R_after (ok := (fun _ => True)) (by (with_reducible repeat (first | apply Kd.R_alloc | apply Kd.R_drewN | apply Kd.R_drew)); exact Kd.R_mono HO_6.out (fun _ hk => ⟨trivial, hk⟩)) hg hat); have n1_ := Aside0.mk (hb); have n2_ := Aside0.mk (ho); clear HO_6; clear HB; clear HO_14; have HO_6 := n0_; have HB := n1_; have HO150 := n2_; clear n0_ n1_ n2_; clear ho hb hg hat)))
                                                                        go_roundg k5
                                                                        case measure => have := HJ2.out; have := HK2.out; have := HK3.out; have := HK4.out; have := HK5.out; omega
                                                                        case rel => exact ⟨(y148), (t144), (by first | rfl | (simp; done) | (simp [*]; done)), H', ⟨by have := HJ2.out; have := HK2.out; have := HK3.out; have := HK4.out; have := HK5.out; omega⟩, ⟨by (try simp only [hl6_3]); (with_reducible repeat (first | apply Kd.R_alloc | apply Kd.R_drewN | apply Kd.R_drew)); exact Kd.R_mono HO_6.out (fun _ hk => hk.2)⟩, ⟨by (try simp only [hl6_3]); (with_reducible repeat (first | apply Kd.R_alloc | apply Kd.R_drewN | apply Kd.R_drew)); exact HO150.out⟩, ⟨by repeat (first | (with_reducible first | exact HB.out | apply below_alloc | apply pw_below_drewN | apply below_drew1) | exact HB.out)⟩⟩
                                                                      · rw [if_neg c64] at H
                                                                        exact absurd H (by simp)
                                                                    · rw [if_neg c63] at H
                                                                      have c63b0 : ((rd x6_3 t144) == (wrap64 ((rd x6_3 x15_5) - 1))) = false := beq_eq_false_iff_ne.mpr c63
                                                                      have c63b1 : ((rd x6_3 t144) != (wrap64 ((rd x6_3 x15_5) - 1))) = true := bne_iff_ne.mpr c63
                                                                      have H' := Aside0.mk H
                                                                      clear H
                                                                      go_wp2_with (first | (go_at_call 29; (with_reducible refine (backstepref44_after.calls k5 a0 x15_5 x16_5 t144 _ A56.out).mono ?_); rintro e w' ⟨rfl, ⟨nd, rfl⟩⟩; (try first | exact ⟨rfl, _, World.drewN_drewN _ _ _⟩ | exact ⟨rfl, _, Eq.trans (World.drewN_drewN _ _ _) (congrArg (World.drewN _) (Nat.add_assoc _ _ _))⟩); have p145 : 0 ≤ (t144 : Int) := of_decide_eq_true (by first | (with_reducible assumption) | assumption); have q145 : t144 < (x6_3.length : Int) := of_decide_eq_true (by first | (with_reducible assumption) | assumption); obtain ⟨ad145, e145, hx145_0⟩ := Kd.at_int (Kd.R_reads' HO_6.out).2.2 t144 p145 q145; obtain rfl : (⟨go24, 0, none⟩ : Addr) = ad145 := (by injection e145); (first | simp only [add_plain] at hx145_0 | simp only [add_at] at hx145_0 | simp only [Addr.add, Nat.zero_add] at hx145_0 | skip); replace p145 := eq_true p145; replace q145 := eq_true q145; have p146 : 0 ≤ (t144 : Int) := of_decide_eq_true (by first | (with_reducible assumption) | assumption); have q146 : t144 < (x6_3.length : Int) := of_decide_eq_true (by first | (with_reducible assumption) | assumption); obtain ⟨ad146, e146, hx146_0⟩ := Kd.at_int (Kd.R_reads' HO_6.out).2.2 t144 p146 q146; obtain rfl : (⟨go24, 0, none⟩ : Addr) = ad146 := (by injection e146); (first | simp only [add_plain] at hx146_0 | simp only [add_at] at hx146_0 | simp only [Addr.add, Nat.zero_add] at hx146_0 | skip); replace p146 := eq_true p146; replace q146 := eq_true q146; have p147 : 0 ≤ (x15_5 : Int) := of_decide_eq_true (by first | (with_reducible assumption) | assumption); have q147 : x15_5 < (x6_3.length : Int) := of_decide_eq_true (by first | (with_reducible assumption) | assumption); obtain ⟨ad147, e147, hx147_0⟩ := Kd.at_int (Kd.R_reads' HO_6.out).2.2 x15_5 p147 q147; obtain rfl : (⟨go24, 0, none⟩ : Addr) = ad147 := (by injection e147); (first | simp only [add_plain] at hx147_0 | simp only [add_at] at hx147_0 | simp only [Addr.add, Nat.zero_add] at hx147_0 | skip); replace p147 := eq_true p147; replace q147 := eq_true q147))
                                                                      repeat (go_quiet (first | (go_at_call 29; (with_reducible refine (backstepref44_after.calls k5 a0 x15_5 x16_5 t144 _ A56.out).mono ?_); rintro e w' ⟨rfl, ⟨nd, rfl⟩⟩; (try first | exact ⟨rfl, _, World.drewN_drewN _ _ _⟩ | exact ⟨rfl, _, Eq.trans (World.drewN_drewN _ _ _) (congrArg (World.drewN _) (Nat.add_assoc _ _ _))⟩); have p145 : 0 ≤ (t144 : Int) := of_decide_eq_true (by first | (with_reducible assumption) | assumption); have q145 : t144 < (x6_3.length : Int) := of_decide_eq_true (by first | (with_reducible assumption) | assumption); obtain ⟨ad145, e145, hx145_0⟩ := Kd.at_int (Kd.R_reads' HO_6.out).2.2 t144 p145 q145; obtain rfl : (⟨go24, 0, none⟩ : Addr) = ad145 := (by injection e145); (first | simp only [add_plain] at hx145_0 | simp only [add_at] at hx145_0 | simp only [Addr.add, Nat.zero_add] at hx145_0 | skip); replace p145 := eq_true p145; replace q145 := eq_true q145; have p146 : 0 ≤ (t144 : Int) := of_decide_eq_true (by first | (with_reducible assumption) | assumption); have q146 : t144 < (x6_3.length : Int) := of_decide_eq_true (by first | (with_reducible assumption) | assumption); obtain ⟨ad146, e146, hx146_0⟩ := Kd.at_int (Kd.R_reads' HO_6.out).2.2 t144 p146 q146; obtain rfl : (⟨go24, 0, none⟩ : Addr) = ad146 := (by injection e146); (first | simp only [add_plain] at hx146_0 | simp only [add_at] at hx146_0 | simp only [Addr.add, Nat.zero_add] at hx146_0 | skip); replace p146 := eq_true p146; replace q146 := eq_true q146; have p147 : 0 ≤ (x15_5 : Int) := of_decide_eq_true (by first | (with_reducible assumption) | assumption); have q147 : x15_5 < (x6_3.length : Int) := of_decide_eq_true (by first | (with_reducible assumption) | assumption); obtain ⟨ad147, e147, hx147_0⟩ := Kd.at_int (Kd.R_reads' HO_6.out).2.2 x15_5 p147 q147; obtain rfl : (⟨go24, 0, none⟩ : Addr) = ad147 := (by injection e147); (first | simp only [add_plain] at hx147_0 | simp only [add_at] at hx147_0 | simp only [Addr.add, Nat.zero_add] at hx147_0 | skip); replace p147 := eq_true p147; replace q147 := eq_true q147)); try go_wp2_with (first | (go_at_call 29; (with_reducible refine (backstepref44_after.calls k5 a0 x15_5 x16_5 t144 _ A56.out).mono ?_); rintro e w' ⟨rfl, ⟨nd, rfl⟩⟩; (try first | exact ⟨rfl, _, World.drewN_drewN _ _ _⟩ | exact ⟨rfl, _, Eq.trans (World.drewN_drewN _ _ _) (congrArg (World.drewN _) (Nat.add_assoc _ _ _))⟩); have p145 : 0 ≤ (t144 : Int) := of_decide_eq_true (by first | (with_reducible assumption) | assumption); have q145 : t144 < (x6_3.length : Int) := of_decide_eq_true (by first | (with_reducible assumption) | assumption); obtain ⟨ad145, e145, hx145_0⟩ := Kd.at_int (Kd.R_reads' HO_6.out).2.2 t144 p145 q145; obtain rfl : (⟨go24, 0, none⟩ : Addr) = ad145 := (by injection e145); (first | simp only [add_plain] at hx145_0 | simp only [add_at] at hx145_0 | simp only [Addr.add, Nat.zero_add] at hx145_0 | skip); replace p145 := eq_true p145; replace q145 := eq_true q145; have p146 : 0 ≤ (t144 : Int) := of_decide_eq_true (by first | (with_reducible assumption) | assumption); have q146 : t144 < (x6_3.length : Int) := of_decide_eq_true (by first | (with_reducible assumption) | assumption); obtain ⟨ad146, e146, hx146_0⟩ := Kd.at_int (Kd.R_reads' HO_6.out).2.2 t144 p146 q146; obtain rfl : (⟨go24, 0, none⟩ : Addr) = ad146 := (by injection e146); (first | simp only [add_plain] at hx146_0 | simp only [add_at] at hx146_0 | simp only [Addr.add, Nat.zero_add] at hx146_0 | skip); replace p146 := eq_true p146; replace q146 := eq_true q146; have p147 : 0 ≤ (x15_5 : Int) := of_decide_eq_true (by first | (with_reducible assumption) | assumption); have q147 : x15_5 < (x6_3.length : Int) := of_decide_eq_true (by first | (with_reducible assumption) | assumption); obtain ⟨ad147, e147, hx147_0⟩ := Kd.at_int (Kd.R_reads' HO_6.out).2.2 x15_5 p147 q147; obtain rfl : (⟨go24, 0, none⟩ : Addr) = ad147 := (by injection e147); (first | simp only [add_plain] at hx147_0 | simp only [add_at] at hx147_0 | simp only [Addr.add, Nat.zero_add] at hx147_0 | skip); replace p147 := eq_true p147; replace q147 := eq_true q147)))
                                                                      go_roundg k5
                                                                      case measure => have := HJ2.out; have := HK2.out; have := HK3.out; have := HK4.out; have := HK5.out; omega
                                                                      case rel => exact ⟨(x14_5), (x15_5), (wrap64 (x16_5 + 1)), (by first | rfl | (simp; done) | (simp [*]; done)), (by first | rfl | (simp; done) | (simp [*]; done)), H', ⟨by have := HJ2.out; have := HK2.out; have := HK3.out; have := HK4.out; have := HK5.out; omega⟩, ⟨by (try simp only [hl6_3]); (with_reducible repeat (first | apply Kd.R_alloc | apply Kd.R_drewN | apply Kd.R_drew)); exact HO_6.out⟩, ⟨by (try simp only [hl6_3]); (with_reducible repeat (first | apply Kd.R_alloc | apply Kd.R_drewN | apply Kd.R_drew)); exact HO_14.out⟩, ⟨by repeat (first | (with_reducible first | exact HB.out | apply below_alloc | apply pw_below_drewN | apply below_drew1) | exact HB.out)⟩⟩
                                                                  · rw [if_neg c62] at H
                                                                    exact absurd H (by simp)
                                                                · rw [if_neg c61] at H
                                                                  exact absurd H (by simp)
                                                              · rw [if_neg c60] at H
                                                                have c60b0 : decide (0 ≤ (rd x6_3 t144)) = false := decide_eq_false c60
                                                                clear c60
                                                                have H' := Aside0.mk H
                                                                clear H
                                                                go_wp2_with (first | (go_at_call 29; (with_reducible refine (backstepref44_after.calls k5 a0 x15_5 x16_5 t144 _ A56.out).mono ?_); rintro e w' ⟨rfl, ⟨nd, rfl⟩⟩; (try first | exact ⟨rfl, _, World.drewN_drewN _ _ _⟩ | exact ⟨rfl, _, Eq.trans (World.drewN_drewN _ _ _) (congrArg (World.drewN _) (Nat.add_assoc _ _ _))⟩); have p145 : 0 ≤ (t144 : Int) := of_decide_eq_true (by first | (with_reducible assumption) | assumption); have q145 : t144 < (x6_3.length : Int) := of_decide_eq_true (by first | (with_reducible assumption) | assumption); obtain ⟨ad145, e145, hx145_0⟩ := Kd.at_int (Kd.R_reads' HO_6.out).2.2 t144 p145 q145; obtain rfl : (⟨go24, 0, none⟩ : Addr) = ad145 := (by injection e145); (first | simp only [add_plain] at hx145_0 | simp only [add_at] at hx145_0 | simp only [Addr.add, Nat.zero_add] at hx145_0 | skip); replace p145 := eq_true p145; replace q145 := eq_true q145))
                                                                repeat (go_quiet (first | (go_at_call 29; (with_reducible refine (backstepref44_after.calls k5 a0 x15_5 x16_5 t144 _ A56.out).mono ?_); rintro e w' ⟨rfl, ⟨nd, rfl⟩⟩; (try first | exact ⟨rfl, _, World.drewN_drewN _ _ _⟩ | exact ⟨rfl, _, Eq.trans (World.drewN_drewN _ _ _) (congrArg (World.drewN _) (Nat.add_assoc _ _ _))⟩); have p145 : 0 ≤ (t144 : Int) := of_decide_eq_true (by first | (with_reducible assumption) | assumption); have q145 : t144 < (x6_3.length : Int) := of_decide_eq_true (by first | (with_reducible assumption) | assumption); obtain ⟨ad145, e145, hx145_0⟩ := Kd.at_int (Kd.R_reads' HO_6.out).2.2 t144 p145 q145; obtain rfl : (⟨go24, 0, none⟩ : Addr) = ad145 := (by injection e145); (first | simp only [add_plain] at hx145_0 | simp only [add_at] at hx145_0 | simp only [Addr.add, Nat.zero_add] at hx145_0 | skip); replace p145 := eq_true p145; replace q145 := eq_true q145)); try go_wp2_with (first | (go_at_call 29; (with_reducible refine (backstepref44_after.calls k5 a0 x15_5 x16_5 t144 _ A56.out).mono ?_); rintro e w' ⟨rfl, ⟨nd, rfl⟩⟩; (try first | exact ⟨rfl, _, World.drewN_drewN _ _ _⟩ | exact ⟨rfl, _, Eq.trans (World.drewN_drewN _ _ _) (congrArg (World.drewN _) (Nat.add_assoc _ _ _))⟩); have p145 : 0 ≤ (t144 : Int) := of_decide_eq_true (by first | (with_reducible assumption) | assumption); have q145 : t144 < (x6_3.length : Int) := of_decide_eq_true (by first | (with_reducible assumption) | assumption); obtain ⟨ad145, e145, hx145_0⟩ := Kd.at_int (Kd.R_reads' HO_6.out).2.2 t144 p145 q145; obtain rfl : (⟨go24, 0, none⟩ : Addr) = ad145 := (by injection e145); (first | simp only [add_plain] at hx145_0 | simp only [add_at] at hx145_0 | simp only [Addr.add, Nat.zero_add] at hx145_0 | skip); replace p145 := eq_true p145; replace q145 := eq_true q145)))
                                                                go_roundg k5
                                                                case measure => have := HJ2.out; have := HK2.out; have := HK3.out; have := HK4.out; have := HK5.out; omega
                                                                case rel => exact ⟨(x14_5), (x15_5), (wrap64 (x16_5 + 1)), (by first | rfl | (simp; done) | (simp [*]; done)), (by first | rfl | (simp; done) | (simp [*]; done)), H', ⟨by have := HJ2.out; have := HK2.out; have := HK3.out; have := HK4.out; have := HK5.out; omega⟩, ⟨by (try simp only [hl6_3]); (with_reducible repeat (first | apply Kd.R_alloc | apply Kd.R_drewN | apply Kd.R_drew)); exact HO_6.out⟩, ⟨by (try simp only [hl6_3]); (with_reducible repeat (first | apply Kd.R_alloc | apply Kd.R_drewN | apply Kd.R_drew)); exact HO_14.out⟩, ⟨by repeat (first | (with_reducible first | exact HB.out | apply below_alloc | apply pw_below_drewN | apply below_drew1) | exact HB.out)⟩⟩
                                                            · rw [if_neg c59] at H
                                                              exact absurd H (by simp)
                                                          · rw [if_neg c58] at H
                                                            exact absurd H (by simp)
                                                        · rw [if_neg c57] at H
                                                          have c57b0 : decide (0 ≤ t144) = false := decide_eq_false c57
                                                          clear c57
                                                          have H' := Aside0.mk H
                                                          clear H
                                                          go_wp2_with (first | (go_at_call 29; (with_reducible refine (backstepref44_after.calls k5 a0 x15_5 x16_5 t144 _ A56.out).mono ?_); rintro e w' ⟨rfl, ⟨nd, rfl⟩⟩; (try first | exact ⟨rfl, _, World.drewN_drewN _ _ _⟩ | exact ⟨rfl, _, Eq.trans (World.drewN_drewN _ _ _) (congrArg (World.drewN _) (Nat.add_assoc _ _ _))⟩)))
                                                          repeat (go_quiet (first | (go_at_call 29; (with_reducible refine (backstepref44_after.calls k5 a0 x15_5 x16_5 t144 _ A56.out).mono ?_); rintro e w' ⟨rfl, ⟨nd, rfl⟩⟩; (try first | exact ⟨rfl, _, World.drewN_drewN _ _ _⟩ | exact ⟨rfl, _, Eq.trans (World.drewN_drewN _ _ _) (congrArg (World.drewN _) (Nat.add_assoc _ _ _))⟩))); try go_wp2_with (first | (go_at_call 29; (with_reducible refine (backstepref44_after.calls k5 a0 x15_5 x16_5 t144 _ A56.out).mono ?_); rintro e w' ⟨rfl, ⟨nd, rfl⟩⟩; (try first | exact ⟨rfl, _, World.drewN_drewN _ _ _⟩ | exact ⟨rfl, _, Eq.trans (World.drewN_drewN _ _ _) (congrArg (World.drewN _) (Nat.add_assoc _ _ _))⟩))))
                                                          go_roundg k5
                                                          case measure => have := HJ2.out; have := HK2.out; have := HK3.out; have := HK4.out; have := HK5.out; omega
                                                          case rel => exact ⟨(x14_5), (x15_5), (wrap64 (x16_5 + 1)), (by first | rfl | (simp; done) | (simp [*]; done)), (by first | rfl | (simp; done) | (simp [*]; done)), H', ⟨by have := HJ2.out; have := HK2.out; have := HK3.out; have := HK4.out; have := HK5.out; omega⟩, ⟨by (try simp only [hl6_3]); (with_reducible repeat (first | apply Kd.R_alloc | apply Kd.R_drewN | apply Kd.R_drew)); exact HO_6.out⟩, ⟨by (try simp only [hl6_3]); (with_reducible repeat (first | apply Kd.R_alloc | apply Kd.R_drewN | apply Kd.R_drew)); exact HO_14.out⟩, ⟨by repeat (first | (with_reducible first | exact HB.out | apply below_alloc | apply pw_below_drewN | apply below_drew1) | exact HB.out)⟩⟩
                                                      · rw [if_neg c55] at H
                                                        have c55b0 : decide (x16_5 ≤ a0) = false := decide_eq_false c55
                                                        clear c55
                                                        have H' := Aside0.mk H
                                                        clear H
                                                        go_wp2
                                                        repeat (go_quiet (fail); try go_wp2)
                                                        go_roundg k5
                                                        case measure => have := HJ2.out; have := HK2.out; have := HK3.out; have := HK4.out; have := HK5.out; omega
                                                        case rel => exact ⟨(x14_5), (x15_5), (by first | rfl | (simp; done) | (simp [*]; done)), H', ⟨by have := HJ2.out; have := HK2.out; have := HK3.out; have := HK4.out; have := HK5.out; omega⟩, ⟨by (try simp only [hl6_3]); (with_reducible repeat (first | apply Kd.R_alloc | apply Kd.R_drewN | apply Kd.R_drew)); exact HO_6.out⟩, ⟨by (try simp only [hl6_3]); (with_reducible repeat (first | apply Kd.R_alloc | apply Kd.R_drewN | apply Kd.R_drew)); exact HO_14.out⟩, ⟨by repeat (first | (with_reducible first | exact HB.out | apply below_alloc | apply pw_below_drewN | apply below_drew1) | exact HB.out)⟩⟩
                                    · rw [if_neg c50] at H
                                      exact absurd H (by simp)
                          · rw [if_neg c23] at H
                            exact absurd H (by simp)
                        · rw [if_neg c22] at H
                          exact absurd H (by simp)
                      · rw [if_neg c20] at H
                        exact absurd H (by simp)
            · rw [if_neg c10] at H
              exact absurd H (by simp)
          · rw [if_neg c9] at H
            exact absurd H (by simp)
        · rw [if_neg c7] at H
          exact absurd H (by simp)

end Go.Proofs.Ytpkamififbhheaa.PAll
