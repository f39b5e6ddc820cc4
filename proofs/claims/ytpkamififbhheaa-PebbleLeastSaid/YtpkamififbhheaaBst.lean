/- pebble.count, pebble.Best and its closure: what they come to, as plain functions, and that a call of each comes to just that. -/
import Derived.Test.YtpkamififbhheaaBst0
import Derived.Lib.Hide
namespace Go.Proofs.Ytpkamififbhheaa.PAll
open Go.RowKit Go.Proofs.Ytpkamififbhheaa.PBst0 Go.Proofs.YtpkamififbhheaaW.PrintWords Go.Proofs.YtpkamififbhheaaW.PrintLast Go.Proofs.YtpkamififbhheaaW.PrintMore
attribute [local go_sem] max2_int min2_int max_two min_two max_three min_three max_four min_four
set_option linter.unusedVariables false
set_option linter.unusedSimpArgs false

/-! ### pebble_count: function 28 -/
def pebble_count.l0 : Nat → Int → Int → Option (Int)
  | 0, _, _ => none
  | k + 1, x0, x3 => if x0 = 0 then (some x3) else (pebble_count.l0 k (Go.bits .and .u64 x0 (IntKind.u64.wrap (x0 - 1))) (wrap64 (x3 + 1)))
def pebble_count.f (k : Nat) (a0 : Int) : Option (Int) := pebble_count.l0 k a0 0
theorem pebble_count.mono_l : ∀ k, (∀ y0 y1, LeO (pebble_count.l0 k y0 y1) (pebble_count.l0 (k + 1) y0 y1))
  | 0 => fun _ _ r h => by simp [pebble_count.l0] at h
  | k + 1 => by
    have ih0 := pebble_count.mono_l k
    · intro y0 y1
      unfold pebble_count.l0
      repeat' first
      | (with_reducible exact ih0 _ _)
      | (with_reducible exact LeO.refl _)
      | (with_reducible exact LeO.none _)
      | (with_reducible refine LeO.ite ?_ ?_)
      | (with_reducible refine LeO.bind ?_ (fun _ => ?_))
      | exact ih0 _ _
      | exact LeO.none _
      | refine LeO.ite ?_ ?_
      | refine LeO.bind ?_ (fun _ => ?_)
theorem pebble_count.mono : ∀ a0 k, LeO (pebble_count.f k a0) (pebble_count.f (k + 1) a0) := by
  intro a0 k
  have ih0 := pebble_count.mono_l k
  unfold pebble_count.f
  repeat' first
      | (with_reducible exact ih0 _ _)
      | (with_reducible exact LeO.refl _)
      | (with_reducible exact LeO.none _)
      | (with_reducible refine LeO.ite ?_ ?_)
      | (with_reducible refine LeO.bind ?_ (fun _ => ?_))
      | exact ih0 _ _
      | exact LeO.none _
      | refine LeO.ite ?_ ?_
      | refine LeO.bind ?_ (fun _ => ?_)
set_option maxHeartbeats 8000000 in
set_option maxRecDepth 100000 in
theorem pebble_count.calls (k : Nat) (a0 : Int) (r : Int) (w : World) (h : pebble_count.f k a0 = some r) :
    Calls Try.prog 28 #[.int .u64 a0] w fun e w' => e = .returned (.int .i64 r) ∧ Drawn0 w w' := by
  have H : (pebble_count.l0 k a0 0) = some r := h
  clear h
  have H' := Aside0.mk H
  clear H
  go_enter Try.func28, Try.ntmps28
  go_wp2
  go_loopg [0, 3] k (fun kq v0 v3 w' => ∃ (x0_1 : Int) (x3_1 : Int), v0 = .int .u64 x0_1 ∧ v3 = .int .i64 x3_1 ∧ Aside0 (pebble_count.l0 kq x0_1 x3_1 = some r) ∧ Aside0 (kq ≤ k) ∧ Drawn0 w w')
  case atStart => exact ⟨(a0), (0), (by first | rfl | (simp; done) | (simp [*]; done)), (by first | rfl | (simp; done) | (simp [*]; done)), H', ⟨Nat.le_refl _⟩, by repeat (first | exact Drawn0.refl _ | apply Drawn0.step)⟩
  case round =>
    clear H'
    obtain ⟨x0_1, x3_1, rfl, rfl, HA, HK1, ⟨m1, rfl⟩⟩ := hrel
    cases gk with
    | zero => exact absurd HA.out (by simp [pebble_count.l0])
    | succ k1 =>
      have H := HA.out
      clear HA
      simp only [pebble_count.l0] at H
      by_cases c2 : x0_1 = 0
      · rw [if_pos c2] at H
        have c2b0 : (x0_1 == 0) = true := beq_iff_eq.mpr c2
        have c2b1 : (x0_1 != 0) = false := bne_eq_false_iff_eq.mpr c2
        clear c2
        obtain rfl := Option.some.inj H
        go_wp2
        go_ret
        exact ⟨by first | rfl | (simp; done) | (simp [*]; done), by repeat (first | exact Drawn0.refl _ | apply Drawn0.step)⟩
      · rw [if_neg c2] at H
        have c2b0 : (x0_1 == 0) = false := beq_eq_false_iff_ne.mpr c2
        have c2b1 : (x0_1 != 0) = true := bne_iff_ne.mpr c2
        have H' := Aside0.mk H
        clear H
        go_wp2
        go_roundg k1
        case measure => have := HK1.out; omega
        case rel => exact ⟨(Go.bits .and .u64 x0_1 (IntKind.u64.wrap (x0_1 - 1))), (wrap64 (x3_1 + 1)), (by first | rfl | (simp; done) | (simp [*]; done)), (by first | rfl | (simp; done) | (simp [*]; done)), H', ⟨by have := HK1.out; omega⟩, by repeat (first | exact Drawn0.refl _ | apply Drawn0.step)⟩


/-! ### pebble_Best_1: function 27 -/
def pebble_Best_1.f (k : Nat) (a0 : Int) (a1 : Int) (a2 : Int) : Option (Int × Bool) := if a1 > 1 then (if 0 ≤ (wrap64 (a1 - 2)) then (if (Go.bits .and .u64 (shr .u64 a0 (wrap64 (a1 - 2))) 1) = 0 then (some (0, false)) else (if 0 ≤ (wrap64 (a1 - 1)) then ((pebble_count.f k (Go.bits .xor .u64 a0 (shl .u64 1 (wrap64 (a1 - 1))))).bind fun t103 => (some (Go.bits .xor .u64 a0 (shl .u64 1 (wrap64 (a1 - 1))), decide (t103 ≤ a2)))) else (none))) else (none)) else (if 0 ≤ (wrap64 (a1 - 1)) then ((pebble_count.f k (Go.bits .xor .u64 a0 (shl .u64 1 (wrap64 (a1 - 1))))).bind fun t104 => (some (Go.bits .xor .u64 a0 (shl .u64 1 (wrap64 (a1 - 1))), decide (t104 ≤ a2)))) else (none))
theorem pebble_Best_1.mono : ∀ a0 a1 a2 k, LeO (pebble_Best_1.f k a0 a1 a2) (pebble_Best_1.f (k + 1) a0 a1 a2) := by
  intro a0 a1 a2 k
  unfold pebble_Best_1.f
  repeat' first
      | (with_reducible exact pebble_count.mono _ _)
      | (with_reducible exact LeO.refl _)
      | (with_reducible exact LeO.none _)
      | (with_reducible refine LeO.ite ?_ ?_)
      | (with_reducible refine LeO.bind ?_ (fun _ => ?_))
      | exact pebble_count.mono _ _
      | exact LeO.none _
      | refine LeO.ite ?_ ?_
      | refine LeO.bind ?_ (fun _ => ?_)
set_option maxHeartbeats 8000000 in
set_option maxRecDepth 100000 in
theorem pebble_Best_1.calls (k : Nat) (a0 : Int) (a1 : Int) (a2 : Int) (r1 : Int) (r2 : Bool) (w : World) (B : Nat) (hbx : w.cell? ⟨B, 0, none⟩ = some (.int .i64 a2)) (h : pebble_Best_1.f k a0 a1 a2 = some (r1, r2)) :
    Calls Try.prog 27 #[.int .u64 a0, .int .i64 a1, .pointer (some ⟨B, 0, none⟩)] w fun e w' => e = .returned (.tuple #[.int .u64 r1, .bool r2]) ∧ Drawn0 w w' := by
  have H : (if a1 > 1 then (if 0 ≤ (wrap64 (a1 - 2)) then (if (Go.bits .and .u64 (shr .u64 a0 (wrap64 (a1 - 2))) 1) = 0 then (some (0, false)) else (if 0 ≤ (wrap64 (a1 - 1)) then ((pebble_count.f k (Go.bits .xor .u64 a0 (shl .u64 1 (wrap64 (a1 - 1))))).bind fun t103 => (some (Go.bits .xor .u64 a0 (shl .u64 1 (wrap64 (a1 - 1))), decide (t103 ≤ a2)))) else (none))) else (none)) else (if 0 ≤ (wrap64 (a1 - 1)) then ((pebble_count.f k (Go.bits .xor .u64 a0 (shl .u64 1 (wrap64 (a1 - 1))))).bind fun t104 => (some (Go.bits .xor .u64 a0 (shl .u64 1 (wrap64 (a1 - 1))), decide (t104 ≤ a2)))) else (none))) = some (r1, r2) := h
  clear h
  by_cases c4 : a1 > 1
  · rw [if_pos c4] at H
    have c4b0 : decide (1 < a1) = true := decide_eq_true c4
    clear c4
    obtain ⟨ji5, hji5⟩ : ∃ j_ : Int, (wrap64 (a1 - 2)) = j_ := ⟨_, rfl⟩
    replace H : (if 0 ≤ (ji5) then (if (Go.bits .and .u64 (shr .u64 a0 (ji5)) 1) = 0 then (some (0, false)) else (if 0 ≤ (wrap64 (a1 - 1)) then ((pebble_count.f k (Go.bits .xor .u64 a0 (shl .u64 1 (wrap64 (a1 - 1))))).bind fun t103 => (some (Go.bits .xor .u64 a0 (shl .u64 1 (wrap64 (a1 - 1))), decide (t103 ≤ a2)))) else (none))) else (none)) = some (r1, r2) := by first | (rw [hji5] at H; exact H) | (simp only [hji5] at H ⊢; exact H)
    have hji5w : (IntKind.i64.wrap (a1 - 2)) = ji5 := (i64_w _).trans hji5
    by_cases c6 : 0 ≤ (ji5)
    · rw [if_pos c6] at H
      have c6b0 := eq_true c6
      have c6b1 : decide (0 ≤ (ji5)) = true := decide_eq_true c6
      clear c6
      obtain ⟨ji7, hji7⟩ : ∃ j_ : Int, (shr .u64 a0 (ji5)) = j_ := ⟨_, rfl⟩
      replace H : (if (Go.bits .and .u64 (ji7) 1) = 0 then (some (0, false)) else (if 0 ≤ (wrap64 (a1 - 1)) then ((pebble_count.f k (Go.bits .xor .u64 a0 (shl .u64 1 (wrap64 (a1 - 1))))).bind fun t103 => (some (Go.bits .xor .u64 a0 (shl .u64 1 (wrap64 (a1 - 1))), decide (t103 ≤ a2)))) else (none))) = some (r1, r2) := by first | (rw [hji7] at H; exact H) | (simp only [hji7] at H ⊢; exact H)
      have hji7_ : (a0 / 2 ^ min (ji5).toNat 64) = ji7 := hji7
      have hji7z : (ji5) ≤ 64 → (a0 / 2 ^ (ji5).toNat) = ji7 := shr_small hji7
      by_cases c8 : (Go.bits .and .u64 (ji7) 1) = 0
      · rw [if_pos c8] at H
        have c8b0 : ((Go.bits .and .u64 (ji7) 1) == 0) = true := beq_iff_eq.mpr c8
        have c8b1 : ((Go.bits .and .u64 (ji7) 1) != 0) = false := bne_eq_false_iff_eq.mpr c8
        clear c8
        simp only [Option.some.injEq, Prod.mk.injEq] at H
        obtain ⟨rfl, rfl⟩ := H
        go_enter Try.func27, Try.ntmps27
        go_wp2
        repeat (go_quiet (fail); try go_wp2)
        go_ret2
        exact ⟨by first | rfl | (simp; done) | (simp only [← hji5, ← hji7] <;> (first | rfl | simp)) | (simp [*]; done), by repeat (first | exact Drawn0.refl _ | apply Drawn0.step)⟩
      · rw [if_neg c8] at H
        have c8b0 : ((Go.bits .and .u64 (ji7) 1) == 0) = false := beq_eq_false_iff_ne.mpr c8
        have c8b1 : ((Go.bits .and .u64 (ji7) 1) != 0) = true := bne_iff_ne.mpr c8
        obtain ⟨ji9, hji9⟩ : ∃ j_ : Int, (wrap64 (a1 - 1)) = j_ := ⟨_, rfl⟩
        replace H : (if 0 ≤ (ji9) then ((pebble_count.f k (Go.bits .xor .u64 a0 (shl .u64 1 (ji9)))).bind fun t103 => (some (Go.bits .xor .u64 a0 (shl .u64 1 (ji9)), decide (t103 ≤ a2)))) else (none)) = some (r1, r2) := by first | (rw [hji9] at H; exact H) | (simp only [hji9] at H ⊢; exact H)
        have hji9w : (IntKind.i64.wrap (a1 - 1)) = ji9 := (i64_w _).trans hji9
        by_cases c10 : 0 ≤ (ji9)
        · rw [if_pos c10] at H
          have c10b0 := eq_true c10
          have c10b1 : decide (0 ≤ (ji9)) = true := decide_eq_true c10
          clear c10
          obtain ⟨ji11, hji11⟩ : ∃ j_ : Int, (shl .u64 1 (ji9)) = j_ := ⟨_, rfl⟩
          replace H : ((pebble_count.f k (Go.bits .xor .u64 a0 (ji11))).bind fun t103 => (some (Go.bits .xor .u64 a0 (ji11), decide (t103 ≤ a2)))) = some (r1, r2) := by first | (rw [hji11] at H; exact H) | (simp only [hji11] at H ⊢; exact H)
          have hji11_ : (IntKind.u64.wrap (1 * 2 ^ min (ji9).toNat 64)) = ji11 := hji11
          have hji11z : (ji9) ≤ 64 → (IntKind.u64.wrap (1 * 2 ^ (ji9).toNat)) = ji11 := shl_small hji11
          have hji11u : (IntKind.u64.wrap (2 ^ min (ji9).toNat 64)) = ji11 := by have h_ := hji11_; rw [Int.one_mul] at h_; exact h_
          have hji11v : (ji9) ≤ 64 → (IntKind.u64.wrap (2 ^ (ji9).toNat)) = ji11 := fun hle_ => by have h_ := hji11z hle_; rw [Int.one_mul] at h_; exact h_
          replace H := Option.bind_eq_some_iff.mp H
          obtain ⟨t103, A120, H⟩ := H
          replace H : (some (Go.bits .xor .u64 a0 (ji11), decide (t103 ≤ a2))) = some (r1, r2) := H
          have A12 := Aside0.mk A120
          clear A120
          simp only [Option.some.injEq, Prod.mk.injEq] at H
          obtain ⟨rfl, rfl⟩ := H
          go_enter Try.func27, Try.ntmps27
          go_wp2_with (first | (go_at_call 28; (with_reducible refine (pebble_count.calls k (Go.bits .xor .u64 a0 (ji11)) t103 _ A12.out).mono ?_); rintro e w' ⟨rfl, ⟨nd, rfl⟩⟩; (try first | exact ⟨rfl, _, World.drewN_drewN _ _ _⟩ | exact ⟨rfl, _, Eq.trans (World.drewN_drewN _ _ _) (congrArg (World.drewN _) (Nat.add_assoc _ _ _))⟩)))
          repeat (go_quiet (first | (go_at_call 28; (with_reducible refine (pebble_count.calls k (Go.bits .xor .u64 a0 (ji11)) t103 _ A12.out).mono ?_); rintro e w' ⟨rfl, ⟨nd, rfl⟩⟩; (try first | exact ⟨rfl, _, World.drewN_drewN _ _ _⟩ | exact ⟨rfl, _, Eq.trans (World.drewN_drewN _ _ _) (congrArg (World.drewN _) (Nat.add_assoc _ _ _))⟩))); try go_wp2_with (first | (go_at_call 28; (with_reducible refine (pebble_count.calls k (Go.bits .xor .u64 a0 (ji11)) t103 _ A12.out).mono ?_); rintro e w' ⟨rfl, ⟨nd, rfl⟩⟩; (try first | exact ⟨rfl, _, World.drewN_drewN _ _ _⟩ | exact ⟨rfl, _, Eq.trans (World.drewN_drewN _ _ _) (congrArg (World.drewN _) (Nat.add_assoc _ _ _))⟩))))
          go_ret2
          exact ⟨by first | rfl | (simp; done) | (simp only [← hji5, ← hji7, ← hji9, ← hji11] <;> (first | rfl | simp)) | (simp [*]; done), by repeat (first | exact Drawn0.refl _ | apply Drawn0.step)⟩
        · rw [if_neg c10] at H
          exact absurd H (by simp)
    · rw [if_neg c6] at H
      exact absurd H (by simp)
  · rw [if_neg c4] at H
    have c4b0 : decide (1 < a1) = false := decide_eq_false c4
    clear c4
    obtain ⟨ji13, hji13⟩ : ∃ j_ : Int, (wrap64 (a1 - 1)) = j_ := ⟨_, rfl⟩
    replace H : (if 0 ≤ (ji13) then ((pebble_count.f k (Go.bits .xor .u64 a0 (shl .u64 1 (ji13)))).bind fun t104 => (some (Go.bits .xor .u64 a0 (shl .u64 1 (ji13)), decide (t104 ≤ a2)))) else (none)) = some (r1, r2) := by first | (rw [hji13] at H; exact H) | (simp only [hji13] at H ⊢; exact H)
    have hji13w : (IntKind.i64.wrap (a1 - 1)) = ji13 := (i64_w _).trans hji13
    by_cases c14 : 0 ≤ (ji13)
    · rw [if_pos c14] at H
      have c14b0 := eq_true c14
      have c14b1 : decide (0 ≤ (ji13)) = true := decide_eq_true c14
      clear c14
      obtain ⟨ji15, hji15⟩ : ∃ j_ : Int, (shl .u64 1 (ji13)) = j_ := ⟨_, rfl⟩
      replace H : ((pebble_count.f k (Go.bits .xor .u64 a0 (ji15))).bind fun t104 => (some (Go.bits .xor .u64 a0 (ji15), decide (t104 ≤ a2)))) = some (r1, r2) := by first | (rw [hji15] at H; exact H) | (simp only [hji15] at H ⊢; exact H)
      have hji15_ : (IntKind.u64.wrap (1 * 2 ^ min (ji13).toNat 64)) = ji15 := hji15
      have hji15z : (ji13) ≤ 64 → (IntKind.u64.wrap (1 * 2 ^ (ji13).toNat)) = ji15 := shl_small hji15
      have hji15u : (IntKind.u64.wrap (2 ^ min (ji13).toNat 64)) = ji15 := by have h_ := hji15_; rw [Int.one_mul] at h_; exact h_
      have hji15v : (ji13) ≤ 64 → (IntKind.u64.wrap (2 ^ (ji13).toNat)) = ji15 := fun hle_ => by have h_ := hji15z hle_; rw [Int.one_mul] at h_; exact h_
      replace H := Option.bind_eq_some_iff.mp H
      obtain ⟨t104, A160, H⟩ := H
      replace H : (some (Go.bits .xor .u64 a0 (ji15), decide (t104 ≤ a2))) = some (r1, r2) := H
      have A16 := Aside0.mk A160
      clear A160
      simp only [Option.some.injEq, Prod.mk.injEq] at H
      obtain ⟨rfl, rfl⟩ := H
      go_enter Try.func27, Try.ntmps27
      go_wp2_with (first | (go_at_call 28; (with_reducible refine (pebble_count.calls k (Go.bits .xor .u64 a0 (ji15)) t104 _ A16.out).mono ?_); rintro e w' ⟨rfl, ⟨nd, rfl⟩⟩; (try first | exact ⟨rfl, _, World.drewN_drewN _ _ _⟩ | exact ⟨rfl, _, Eq.trans (World.drewN_drewN _ _ _) (congrArg (World.drewN _) (Nat.add_assoc _ _ _))⟩)))
      repeat (go_quiet (first | (go_at_call 28; (with_reducible refine (pebble_count.calls k (Go.bits .xor .u64 a0 (ji15)) t104 _ A16.out).mono ?_); rintro e w' ⟨rfl, ⟨nd, rfl⟩⟩; (try first | exact ⟨rfl, _, World.drewN_drewN _ _ _⟩ | exact ⟨rfl, _, Eq.trans (World.drewN_drewN _ _ _) (congrArg (World.drewN _) (Nat.add_assoc _ _ _))⟩))); try go_wp2_with (first | (go_at_call 28; (with_reducible refine (pebble_count.calls k (Go.bits .xor .u64 a0 (ji15)) t104 _ A16.out).mono ?_); rintro e w' ⟨rfl, ⟨nd, rfl⟩⟩; (try first | exact ⟨rfl, _, World.drewN_drewN _ _ _⟩ | exact ⟨rfl, _, Eq.trans (World.drewN_drewN _ _ _) (congrArg (World.drewN _) (Nat.add_assoc _ _ _))⟩))))
      go_ret2
      exact ⟨by first | rfl | (simp; done) | (simp only [← hji13, ← hji15] <;> (first | rfl | simp)) | (simp [*]; done), by repeat (first | exact Drawn0.refl _ | apply Drawn0.step)⟩
    · rw [if_neg c14] at H
      exact absurd H (by simp)


/-! ### pebble_Best: function 15 -/
mutual
def pebble_Best.j0 : Nat → Int → Int → Bool → Option (List Int × Bool)
  | 0, _, _, _ => none
  | k + 1, x0, x3, x30 => if x30 = true then (some (([] : List Int), false)) else (if 0 ≤ (wrap64 (x0 - 1)) then (if 0 ≤ x0 then (if 0 ≤ (shl .i64 1 x0) then (if (shl .i64 1 x0 : Int).toNat ≤ 35184372088832 then ((some (List.replicate (shl .i64 1 x0 : Int).toNat 0 : List Int)).bind fun y105 => (pebble_Best.l0 k x0 x3 (shl .u64 1 (wrap64 (x0 - 1))) y105 (y105.length : Int) 0)) else (none)) else (none)) else (none)) else (none))
def pebble_Best.l0 : Nat → Int → Int → Int → List Int → Int → Int → Option (List Int × Bool)
  | 0, _, _, _, _, _, _ => none
  | k + 1, x0, x3, x6, x7, x38, x39 => if x39 < x38 then (if 0 ≤ x39 then (if x39 < (x7.length : Int) then (pebble_Best.l0 k x0 x3 x6 (x7.set (x39 : Int).toNat (-1)) x38 (wrap64 (x39 + 1))) else (none)) else (none)) else (if 0 ≤ x6 then (if x6 < (x7.length : Int) then (pebble_Best.l1 k x0 x3 x6 (x7.set (x6 : Int).toNat 0) (([x6] : List Int)) 0) else (none)) else (none))
def pebble_Best.l1 : Nat → Int → Int → Int → List Int → List Int → Int → Option (List Int × Bool)
  | 0, _, _, _, _, _, _ => none
  | k + 1, x0, x3, x6, x7, x10, x11 => if x11 < (x10.length : Int) then (pebble_Best.l2 k x0 x3 x6 x7 x10 x11 1) else (if 0 < (x7.length : Int) then (if (rd x7 0) < 0 then (some (([] : List Int), false)) else (pebble_Best.l3 k x0 x3 x6 x7 ([] : List Int) 0)) else (none))
def pebble_Best.l2 : Nat → Int → Int → Int → List Int → List Int → Int → Int → Option (List Int × Bool)
  | 0, _, _, _, _, _, _, _ => none
  | k + 1, x0, x3, x6, x7, x10, x11, x12 => if x12 ≤ x0 then (if 0 ≤ x11 then (if x11 < (x10.length : Int) then ((pebble_Best_1.f k (rd x10 x11) x12 x3).bind fun bt114 => (if bt114.2 = true then (if 0 ≤ bt114.1 then (if bt114.1 < (x7.length : Int) then (if (rd x7 bt114.1) < 0 then (if 0 ≤ (rd x10 x11) then (if (rd x10 x11) < (x7.length : Int) then (if x10.length < 17592186044416 then (pebble_Best.l2 k x0 x3 x6 (x7.set (bt114.1 : Int).toNat (wrap64 ((rd x7 (rd x10 x11)) + 1))) (x10 ++ [bt114.1]) x11 (wrap64 (x12 + 1))) else (none)) else (none)) else (none)) else (pebble_Best.l2 k x0 x3 x6 x7 x10 x11 (wrap64 (x12 + 1)))) else (none)) else (none)) else (pebble_Best.l2 k x0 x3 x6 x7 x10 x11 (wrap64 (x12 + 1))))) else (none)) else (none)) else (pebble_Best.l1 k x0 x3 x6 x7 x10 (wrap64 (x11 + 1)))
def pebble_Best.l3 : Nat → Int → Int → Int → List Int → List Int → Int → Option (List Int × Bool)
  | 0, _, _, _, _, _, _ => none
  | k + 1, x0, x3, x6, x7, x15, x16 => if x16 = x6 then (some (x15, true)) else (pebble_Best.l4 k x0 x3 x6 x7 x15 x16 (wrap64 (-x0)))
def pebble_Best.l4 : Nat → Int → Int → Int → List Int → List Int → Int → Int → Option (List Int × Bool)
  | 0, _, _, _, _, _, _, _ => none
  | k + 1, x0, x3, x6, x7, x15, x16, x17 => if x17 ≤ x0 then (if x17 = 0 then (pebble_Best.j6 k x0 x3 x6 x7 x15 x16 x17 (mx x17 (wrap64 (-x17))) true) else (if 0 ≤ (wrap64 ((mx x17 (wrap64 (-x17))) - 1)) then (pebble_Best.j6 k x0 x3 x6 x7 x15 x16 x17 (mx x17 (wrap64 (-x17))) (((Go.bits .and .u64 (shr .u64 x16 (wrap64 ((mx x17 (wrap64 (-x17))) - 1))) 1) == 1) == (decide (x17 > 0)))) else (none))) else (pebble_Best.l3 k x0 x3 x6 x7 x15 x16)
def pebble_Best.j6 : Nat → Int → Int → Int → List Int → List Int → Int → Int → Int → Bool → Option (List Int × Bool)
  | 0, _, _, _, _, _, _, _, _, _ => none
  | k + 1, x0, x3, x6, x7, x15, x16, x17, x18, x126 => if x126 = true then (pebble_Best.l4 k x0 x3 x6 x7 x15 x16 (wrap64 (x17 + 1))) else ((pebble_Best_1.f k x16 x18 x3).bind fun bt124 => (if bt124.2 = true then (if 0 ≤ bt124.1 then (if bt124.1 < (x7.length : Int) then (if 0 ≤ x16 then (if x16 < (x7.length : Int) then (if (rd x7 bt124.1) = (wrap64 ((rd x7 x16) - 1)) then (if x15.length < 17592186044416 then (pebble_Best.l3 k x0 x3 x6 x7 (x15 ++ [x17]) bt124.1) else (none)) else (pebble_Best.l4 k x0 x3 x6 x7 x15 x16 (wrap64 (x17 + 1)))) else (none)) else (none)) else (none)) else (none)) else (pebble_Best.l4 k x0 x3 x6 x7 x15 x16 (wrap64 (x17 + 1)))))
end
def pebble_Best.f (k : Nat) (a0 : Int) (a1 : Int) : Option (List Int × Bool) := if a0 < 1 then (pebble_Best.j0 k a0 a1 true) else (if a0 > 12 then (pebble_Best.j0 k a0 a1 true) else (pebble_Best.j0 k a0 a1 (decide (a1 < 1))))
theorem pebble_Best.mono_l : ∀ k, (∀ y0 y1 y2, LeO (pebble_Best.j0 k y0 y1 y2) (pebble_Best.j0 (k + 1) y0 y1 y2)) ∧ (∀ y0 y1 y2 y3 y4 y5, LeO (pebble_Best.l0 k y0 y1 y2 y3 y4 y5) (pebble_Best.l0 (k + 1) y0 y1 y2 y3 y4 y5)) ∧ (∀ y0 y1 y2 y3 y4 y5, LeO (pebble_Best.l1 k y0 y1 y2 y3 y4 y5) (pebble_Best.l1 (k + 1) y0 y1 y2 y3 y4 y5)) ∧ (∀ y0 y1 y2 y3 y4 y5 y6, LeO (pebble_Best.l2 k y0 y1 y2 y3 y4 y5 y6) (pebble_Best.l2 (k + 1) y0 y1 y2 y3 y4 y5 y6)) ∧ (∀ y0 y1 y2 y3 y4 y5, LeO (pebble_Best.l3 k y0 y1 y2 y3 y4 y5) (pebble_Best.l3 (k + 1) y0 y1 y2 y3 y4 y5)) ∧ (∀ y0 y1 y2 y3 y4 y5 y6, LeO (pebble_Best.l4 k y0 y1 y2 y3 y4 y5 y6) (pebble_Best.l4 (k + 1) y0 y1 y2 y3 y4 y5 y6)) ∧ (∀ y0 y1 y2 y3 y4 y5 y6 y7 y8, LeO (pebble_Best.j6 k y0 y1 y2 y3 y4 y5 y6 y7 y8) (pebble_Best.j6 (k + 1) y0 y1 y2 y3 y4 y5 y6 y7 y8))
  | 0 => ⟨fun _ _ _ r h => by simp [pebble_Best.j0] at h, fun _ _ _ _ _ _ r h => by simp [pebble_Best.l0] at h, fun _ _ _ _ _ _ r h => by simp [pebble_Best.l1] at h, fun _ _ _ _ _ _ _ r h => by simp [pebble_Best.l2] at h, fun _ _ _ _ _ _ r h => by simp [pebble_Best.l3] at h, fun _ _ _ _ _ _ _ r h => by simp [pebble_Best.l4] at h, fun _ _ _ _ _ _ _ _ _ r h => by simp [pebble_Best.j6] at h⟩
  | k + 1 => by
    obtain ⟨ih0, ih1, ih2, ih3, ih4, ih5, ih6⟩ := pebble_Best.mono_l k
    refine ⟨?_, ?_, ?_, ?_, ?_, ?_, ?_⟩
    · intro y0 y1 y2
      unfold pebble_Best.j0
      repeat' first
      | (with_reducible exact ih0 _ _ _)
      | (with_reducible exact ih1 _ _ _ _ _ _)
      | (with_reducible exact ih2 _ _ _ _ _ _)
      | (with_reducible exact ih3 _ _ _ _ _ _ _)
      | (with_reducible exact ih4 _ _ _ _ _ _)
      | (with_reducible exact ih5 _ _ _ _ _ _ _)
      | (with_reducible exact ih6 _ _ _ _ _ _ _ _ _)
      | (with_reducible exact pebble_Best_1.mono _ _ _ _)
      | (with_reducible exact LeO.refl _)
      | (with_reducible exact LeO.none _)
      | (with_reducible refine LeO.ite ?_ ?_)
      | (with_reducible refine LeO.bind ?_ (fun _ => ?_))
      | exact ih0 _ _ _
      | exact ih1 _ _ _ _ _ _
      | exact ih2 _ _ _ _ _ _
      | exact ih3 _ _ _ _ _ _ _
      | exact ih4 _ _ _ _ _ _
      | exact ih5 _ _ _ _ _ _ _
      | exact ih6 _ _ _ _ _ _ _ _ _
      | exact pebble_Best_1.mono _ _ _ _
      | exact LeO.none _
      | refine LeO.ite ?_ ?_
      | refine LeO.bind ?_ (fun _ => ?_)
    · intro y0 y1 y2 y3 y4 y5
      unfold pebble_Best.l0
      repeat' first
      | (with_reducible exact ih0 _ _ _)
      | (with_reducible exact ih1 _ _ _ _ _ _)
      | (with_reducible exact ih2 _ _ _ _ _ _)
      | (with_reducible exact ih3 _ _ _ _ _ _ _)
      | (with_reducible exact ih4 _ _ _ _ _ _)
      | (with_reducible exact ih5 _ _ _ _ _ _ _)
      | (with_reducible exact ih6 _ _ _ _ _ _ _ _ _)
      | (with_reducible exact pebble_Best_1.mono _ _ _ _)
      | (with_reducible exact LeO.refl _)
      | (with_reducible exact LeO.none _)
      | (with_reducible refine LeO.ite ?_ ?_)
      | (with_reducible refine LeO.bind ?_ (fun _ => ?_))
      | exact ih0 _ _ _
      | exact ih1 _ _ _ _ _ _
      | exact ih2 _ _ _ _ _ _
      | exact ih3 _ _ _ _ _ _ _
      | exact ih4 _ _ _ _ _ _
      | exact ih5 _ _ _ _ _ _ _
      | exact ih6 _ _ _ _ _ _ _ _ _
      | exact pebble_Best_1.mono _ _ _ _
      | exact LeO.none _
      | refine LeO.ite ?_ ?_
      | refine LeO.bind ?_ (fun _ => ?_)
    · intro y0 y1 y2 y3 y4 y5
      unfold pebble_Best.l1
      repeat' first
      | (with_reducible exact ih0 _ _ _)
      | (with_reducible exact ih1 _ _ _ _ _ _)
      | (with_reducible exact ih2 _ _ _ _ _ _)
      | (with_reducible exact ih3 _ _ _ _ _ _ _)
      | (with_reducible exact ih4 _ _ _ _ _ _)
      | (with_reducible exact ih5 _ _ _ _ _ _ _)
      | (with_reducible exact ih6 _ _ _ _ _ _ _ _ _)
      | (with_reducible exact pebble_Best_1.mono _ _ _ _)
      | (with_reducible exact LeO.refl _)
      | (with_reducible exact LeO.none _)
      | (with_reducible refine LeO.ite ?_ ?_)
      | (with_reducible refine LeO.bind ?_ (fun _ => ?_))
      | exact ih0 _ _ _
      | exact ih1 _ _ _ _ _ _
      | exact ih2 _ _ _ _ _ _
      | exact ih3 _ _ _ _ _ _ _
      | exact ih4 _ _ _ _ _ _
      | exact ih5 _ _ _ _ _ _ _
      | exact ih6 _ _ _ _ _ _ _ _ _
      | exact pebble_Best_1.mono _ _ _ _
      | exact LeO.none _
      | refine LeO.ite ?_ ?_
      | refine LeO.bind ?_ (fun _ => ?_)
    · intro y0 y1 y2 y3 y4 y5 y6
      unfold pebble_Best.l2
      repeat' first
      | (with_reducible exact ih0 _ _ _)
      | (with_reducible exact ih1 _ _ _ _ _ _)
      | (with_reducible exact ih2 _ _ _ _ _ _)
      | (with_reducible exact ih3 _ _ _ _ _ _ _)
      | (with_reducible exact ih4 _ _ _ _ _ _)
      | (with_reducible exact ih5 _ _ _ _ _ _ _)
      | (with_reducible exact ih6 _ _ _ _ _ _ _ _ _)
      | (with_reducible exact pebble_Best_1.mono _ _ _ _)
      | (with_reducible exact LeO.refl _)
      | (with_reducible exact LeO.none _)
      | (with_reducible refine LeO.ite ?_ ?_)
      | (with_reducible refine LeO.bind ?_ (fun _ => ?_))
      | exact ih0 _ _ _
      | exact ih1 _ _ _ _ _ _
      | exact ih2 _ _ _ _ _ _
      | exact ih3 _ _ _ _ _ _ _
      | exact ih4 _ _ _ _ _ _
      | exact ih5 _ _ _ _ _ _ _
      | exact ih6 _ _ _ _ _ _ _ _ _
      | exact pebble_Best_1.mono _ _ _ _
      | exact LeO.none _
      | refine LeO.ite ?_ ?_
      | refine LeO.bind ?_ (fun _ => ?_)
    · intro y0 y1 y2 y3 y4 y5
      unfold pebble_Best.l3
      repeat' first
      | (with_reducible exact ih0 _ _ _)
      | (with_reducible exact ih1 _ _ _ _ _ _)
      | (with_reducible exact ih2 _ _ _ _ _ _)
      | (with_reducible exact ih3 _ _ _ _ _ _ _)
      | (with_reducible exact ih4 _ _ _ _ _ _)
      | (with_reducible exact ih5 _ _ _ _ _ _ _)
      | (with_reducible exact ih6 _ _ _ _ _ _ _ _ _)
      | (with_reducible exact pebble_Best_1.mono _ _ _ _)
      | (with_reducible exact LeO.refl _)
      | (with_reducible exact LeO.none _)
      | (with_reducible refine LeO.ite ?_ ?_)
      | (with_reducible refine LeO.bind ?_ (fun _ => ?_))
      | exact ih0 _ _ _
      | exact ih1 _ _ _ _ _ _
      | exact ih2 _ _ _ _ _ _
      | exact ih3 _ _ _ _ _ _ _
      | exact ih4 _ _ _ _ _ _
      | exact ih5 _ _ _ _ _ _ _
      | exact ih6 _ _ _ _ _ _ _ _ _
      | exact pebble_Best_1.mono _ _ _ _
      | exact LeO.none _
      | refine LeO.ite ?_ ?_
      | refine LeO.bind ?_ (fun _ => ?_)
    · intro y0 y1 y2 y3 y4 y5 y6
      unfold pebble_Best.l4
      repeat' first
      | (with_reducible exact ih0 _ _ _)
      | (with_reducible exact ih1 _ _ _ _ _ _)
      | (with_reducible exact ih2 _ _ _ _ _ _)
      | (with_reducible exact ih3 _ _ _ _ _ _ _)
      | (with_reducible exact ih4 _ _ _ _ _ _)
      | (with_reducible exact ih5 _ _ _ _ _ _ _)
      | (with_reducible exact ih6 _ _ _ _ _ _ _ _ _)
      | (with_reducible exact pebble_Best_1.mono _ _ _ _)
      | (with_reducible exact LeO.refl _)
      | (with_reducible exact LeO.none _)
      | (with_reducible refine LeO.ite ?_ ?_)
      | (with_reducible refine LeO.bind ?_ (fun _ => ?_))
      | exact ih0 _ _ _
      | exact ih1 _ _ _ _ _ _
      | exact ih2 _ _ _ _ _ _
      | exact ih3 _ _ _ _ _ _ _
      | exact ih4 _ _ _ _ _ _
      | exact ih5 _ _ _ _ _ _ _
      | exact ih6 _ _ _ _ _ _ _ _ _
      | exact pebble_Best_1.mono _ _ _ _
      | exact LeO.none _
      | refine LeO.ite ?_ ?_
      | refine LeO.bind ?_ (fun _ => ?_)
    · intro y0 y1 y2 y3 y4 y5 y6 y7 y8
      unfold pebble_Best.j6
      repeat' first
      | (with_reducible exact ih0 _ _ _)
      | (with_reducible exact ih1 _ _ _ _ _ _)
      | (with_reducible exact ih2 _ _ _ _ _ _)
      | (with_reducible exact ih3 _ _ _ _ _ _ _)
      | (with_reducible exact ih4 _ _ _ _ _ _)
      | (with_reducible exact ih5 _ _ _ _ _ _ _)
      | (with_reducible exact ih6 _ _ _ _ _ _ _ _ _)
      | (with_reducible exact pebble_Best_1.mono _ _ _ _)
      | (with_reducible exact LeO.refl _)
      | (with_reducible exact LeO.none _)
      | (with_reducible refine LeO.ite ?_ ?_)
      | (with_reducible refine LeO.bind ?_ (fun _ => ?_))
      | exact ih0 _ _ _
      | exact ih1 _ _ _ _ _ _
      | exact ih2 _ _ _ _ _ _
      | exact ih3 _ _ _ _ _ _ _
      | exact ih4 _ _ _ _ _ _
      | exact ih5 _ _ _ _ _ _ _
      | exact ih6 _ _ _ _ _ _ _ _ _
      | exact pebble_Best_1.mono _ _ _ _
      | exact LeO.none _
      | refine LeO.ite ?_ ?_
      | refine LeO.bind ?_ (fun _ => ?_)
theorem pebble_Best.mono : ∀ a0 a1 k, LeO (pebble_Best.f k a0 a1) (pebble_Best.f (k + 1) a0 a1) := by
  intro a0 a1 k
  obtain ⟨ih0, ih1, ih2, ih3, ih4, ih5, ih6⟩ := pebble_Best.mono_l k
  unfold pebble_Best.f
  repeat' first
      | (with_reducible exact ih0 _ _ _)
      | (with_reducible exact ih1 _ _ _ _ _ _)
      | (with_reducible exact ih2 _ _ _ _ _ _)
      | (with_reducible exact ih3 _ _ _ _ _ _ _)
      | (with_reducible exact ih4 _ _ _ _ _ _)
      | (with_reducible exact ih5 _ _ _ _ _ _ _)
      | (with_reducible exact ih6 _ _ _ _ _ _ _ _ _)
      | (with_reducible exact pebble_Best_1.mono _ _ _ _)
      | (with_reducible exact LeO.refl _)
      | (with_reducible exact LeO.none _)
      | (with_reducible refine LeO.ite ?_ ?_)
      | (with_reducible refine LeO.bind ?_ (fun _ => ?_))
      | exact ih0 _ _ _
      | exact ih1 _ _ _ _ _ _
      | exact ih2 _ _ _ _ _ _
      | exact ih3 _ _ _ _ _ _ _
      | exact ih4 _ _ _ _ _ _
      | exact ih5 _ _ _ _ _ _ _
      | exact ih6 _ _ _ _ _ _ _ _ _
      | exact pebble_Best_1.mono _ _ _ _
      | exact LeO.none _
      | refine LeO.ite ?_ ?_
      | refine LeO.bind ?_ (fun _ => ?_)
set_option maxHeartbeats 8000000 in
set_option maxRecDepth 100000 in
theorem pebble_Best.core (k : Nat) (a0 : Int) (a1 : Int) (r1 : List Int) (r2 : Bool) (w0 w : World) (hw : w = w0.alloc (.cells #[.int .i64 a1] 3)) (h : pebble_Best.f k a0 a1 = some (r1, r2)) :
    Calls Try.prog 15 #[.int .i64 a0, .int .i64 a1] w0 fun e w' => ∃ v0_ : Value, e = .returned (.tuple #[v0_, .bool r2]) ∧ Kd.R (Kd.int .i64) 3 w' w.heap.size (fun _ => True) v0_ r1 ∧ Below w.heap.size w w' := by
  have hbx0 : w.cell? ⟨w0.heap.size, 0, none⟩ = some (.int .i64 a1) := by rw [hw]; simp
  have hBlt : w0.heap.size < w.heap.size := by rw [hw]; simp
  obtain ⟨B, hB⟩ : ∃ B, B = w0.heap.size := ⟨_, rfl⟩
  rw [← hB] at hbx0 hBlt
  have HBN := Lib.hid hB
  have HW := Lib.hid hw
  have HBX := Lib.hid hbx0
  clear hw hB hbx0
  have HB := Aside0.mk (Below.refl w.heap.size w)
  have H : (if a0 < 1 then (pebble_Best.j0 k a0 a1 true) else (if a0 > 12 then (pebble_Best.j0 k a0 a1 true) else (pebble_Best.j0 k a0 a1 (decide (a1 < 1))))) = some (r1, r2) := h
  clear h
  have HC3 := Aside0.mk H
  clear H
  go_enter Try.func15, Try.ntmps15
  go_upto_region 1 with (fail)
  rw [← HW.out]
  simp only [← HBN.out]
  clear HW HBN
  have hbx := HBX.out
  go_cut [30] (fun v30 wc => ∃ (kq : Nat) (x30_2 : Bool), v30 = .bool x30_2 ∧ Aside0 (pebble_Best.j0 kq a0 a1 x30_2 = some (r1, r2)) ∧ Aside0 (kq ≤ k) ∧ Aside0 (Below w.heap.size w wc))
  case first =>
    have H := HC3.out
    clear HC3
    by_cases c4 : a0 < 1
    · rw [if_pos c4] at H
      have c4b0 : decide (a0 < 1) = true := decide_eq_true c4
      clear c4
      (first | rw [c4b0] | (simp only [i64_w, i32_w]; rw [c4b0]) | skip)
      have H' := Aside0.mk H
      clear H
      go_wp2
      repeat (go_quiet (fail); try go_wp2)
      go_meet
      case rel => exact ⟨_, (true), (by first | rfl | (simp; done) | (simp [*]; done)), H', ⟨by first | omega | exact Nat.le_refl _⟩, ⟨by repeat (first | (with_reducible first | exact HB.out | apply below_alloc | apply pw_below_drewN | apply below_drew1) | exact HB.out)⟩⟩
    · rw [if_neg c4] at H
      have c4b0 : decide (a0 < 1) = false := decide_eq_false c4
      clear c4
      (first | rw [c4b0] | (simp only [i64_w, i32_w]; rw [c4b0]) | skip)
      by_cases c5 : a0 > 12
      · rw [if_pos c5] at H
        have c5b0 : decide (12 < a0) = true := decide_eq_true c5
        clear c5
        have H' := Aside0.mk H
        clear H
        go_wp2
        repeat (go_quiet (fail); try go_wp2)
        go_meet
        case rel => exact ⟨_, (true), (by first | rfl | (simp; done) | (simp [*]; done)), H', ⟨by first | omega | exact Nat.le_refl _⟩, ⟨by repeat (first | (with_reducible first | exact HB.out | apply below_alloc | apply pw_below_drewN | apply below_drew1) | exact HB.out)⟩⟩
      · rw [if_neg c5] at H
        have c5b0 : decide (12 < a0) = false := decide_eq_false c5
        clear c5
        have H' := Aside0.mk H
        clear H
        go_wp2
        repeat (go_quiet (fail); try go_wp2)
        go_meet
        case rel => exact ⟨_, (decide (a1 < 1)), (by first | rfl | (simp; done) | (simp [*]; done)), H', ⟨by first | omega | exact Nat.le_refl _⟩, ⟨by repeat (first | (with_reducible first | exact HB.out | apply below_alloc | apply pw_below_drewN | apply below_drew1) | exact HB.out)⟩⟩
  case rest =>
    clear HC3
    try clear c1
    try clear p2
    try clear c4
    try clear c4b0
    try clear c5
    try clear c5b0
    obtain ⟨kq, x30_2, rfl, HA, HJ2, HB⟩ := hcut
    try clear hbx
    have hbx := (HB.out.cell (p := ⟨B, 0, none⟩) hBlt).trans HBX.out
    cases kq with
    | zero => exact absurd HA.out (by simp [pebble_Best.j0])
    | succ kj2 =>
      have H := HA.out
      clear HA
      simp only [pebble_Best.j0] at H
      by_cases c6 : x30_2 = true
      · subst c6
        have H1 : (some (([] : List Int), false)) = some (r1, r2) := by rw [if_pos rfl] at H; exact H
        clear H
        have H := H1
        clear H1
        simp only [Option.some.injEq, Prod.mk.injEq] at H
        obtain ⟨rfl, rfl⟩ := H
        go_wp2
        repeat (go_quiet (fail); try go_wp2)
        go_ret2
        exact ⟨_, by first | rfl | (simp [errW_none, errW_some] <;> rfl) | (simp [*, errW_none, errW_some] <;> rfl), by first | exact Kd.R_nil _ _ _ _ _ | exact Kd.N_nil _ _ _ _ _ | exact Kd.V_nil _ _ _ _ _ | exact Kd.Q_nil _ _ _ _ _ | exact Kd.S_nil _ _ _ _ _, by repeat (first | (with_reducible first | exact HB.out | apply below_alloc | apply pw_below_drewN | apply below_drew1) | exact HB.out)⟩
      · replace c6 := Bool.eq_false_iff.mpr c6
        subst c6
        have H1 : (if 0 ≤ (wrap64 (a0 - 1)) then (if 0 ≤ a0 then (if 0 ≤ (shl .i64 1 a0) then (if (shl .i64 1 a0 : Int).toNat ≤ 35184372088832 then ((some (List.replicate (shl .i64 1 a0 : Int).toNat 0 : List Int)).bind fun y105 => (pebble_Best.l0 kj2 a0 a1 (shl .u64 1 (wrap64 (a0 - 1))) y105 (y105.length : Int) 0)) else (none)) else (none)) else (none)) else (none)) = some (r1, r2) := by rw [if_neg (show ¬ (false = true) by decide)] at H; exact H
        clear H
        have H := H1
        clear H1
        obtain ⟨ji7, hji7⟩ : ∃ j_ : Int, (wrap64 (a0 - 1)) = j_ := ⟨_, rfl⟩
        replace H : (if 0 ≤ (ji7) then (if 0 ≤ a0 then (if 0 ≤ (shl .i64 1 a0) then (if (shl .i64 1 a0 : Int).toNat ≤ 35184372088832 then ((some (List.replicate (shl .i64 1 a0 : Int).toNat 0 : List Int)).bind fun y105 => (pebble_Best.l0 kj2 a0 a1 (shl .u64 1 (ji7)) y105 (y105.length : Int) 0)) else (none)) else (none)) else (none)) else (none)) = some (r1, r2) := by first | (rw [hji7] at H; exact H) | (simp only [hji7] at H ⊢; exact H)
        have hji7w : (IntKind.i64.wrap (a0 - 1)) = ji7 := (i64_w _).trans hji7
        by_cases c8 : 0 ≤ (ji7)
        · rw [if_pos c8] at H
          have c8b0 := eq_true c8
          have c8b1 : decide (0 ≤ (ji7)) = true := decide_eq_true c8
          clear c8
          obtain ⟨ji9, hji9⟩ : ∃ j_ : Int, (shl .u64 1 (ji7)) = j_ := ⟨_, rfl⟩
          replace H : (if 0 ≤ a0 then (if 0 ≤ (shl .i64 1 a0) then (if (shl .i64 1 a0 : Int).toNat ≤ 35184372088832 then ((some (List.replicate (shl .i64 1 a0 : Int).toNat 0 : List Int)).bind fun y105 => (pebble_Best.l0 kj2 a0 a1 ji9 y105 (y105.length : Int) 0)) else (none)) else (none)) else (none)) = some (r1, r2) := by first | (rw [hji9] at H; exact H) | (simp only [hji9] at H ⊢; exact H)
          have hji9_ : (IntKind.u64.wrap (1 * 2 ^ min (ji7).toNat 64)) = ji9 := hji9
          have hji9z : (ji7) ≤ 64 → (IntKind.u64.wrap (1 * 2 ^ (ji7).toNat)) = ji9 := shl_small hji9
          have hji9u : (IntKind.u64.wrap (2 ^ min (ji7).toNat 64)) = ji9 := by have h_ := hji9_; rw [Int.one_mul] at h_; exact h_
          have hji9v : (ji7) ≤ 64 → (IntKind.u64.wrap (2 ^ (ji7).toNat)) = ji9 := fun hle_ => by have h_ := hji9z hle_; rw [Int.one_mul] at h_; exact h_
          by_cases c10 : 0 ≤ a0
          · rw [if_pos c10] at H
            have c10b0 := eq_true c10
            have c10b1 : decide (0 ≤ a0) = true := decide_eq_true c10
            clear c10
            obtain ⟨ji11, hji11⟩ : ∃ j_ : Int, (shl .i64 1 a0) = j_ := ⟨_, rfl⟩
            replace H : (if 0 ≤ (ji11) then (if (ji11 : Int).toNat ≤ 35184372088832 then ((some (List.replicate (ji11 : Int).toNat 0 : List Int)).bind fun y105 => (pebble_Best.l0 kj2 a0 a1 ji9 y105 (y105.length : Int) 0)) else (none)) else (none)) = some (r1, r2) := by first | (rw [hji11] at H; exact H) | (simp only [hji11] at H ⊢; exact H)
            have hji11_ : (IntKind.i64.wrap (1 * 2 ^ min a0.toNat 64)) = ji11 := hji11
            have hji11z : a0 ≤ 64 → (IntKind.i64.wrap (1 * 2 ^ a0.toNat)) = ji11 := shl_small hji11
            have hji11u : (IntKind.i64.wrap (2 ^ min a0.toNat 64)) = ji11 := by have h_ := hji11_; rw [Int.one_mul] at h_; exact h_
            have hji11v : a0 ≤ 64 → (IntKind.i64.wrap (2 ^ a0.toNat)) = ji11 := fun hle_ => by have h_ := hji11z hle_; rw [Int.one_mul] at h_; exact h_
            have hji11y : (wrap64 (1 * 2 ^ min a0.toNat 64)) = ji11 := (i64_w _).symm.trans hji11_
            have hji11x : a0 ≤ 64 → (wrap64 (1 * 2 ^ a0.toNat)) = ji11 := fun h_ => (i64_w _).symm.trans (hji11z h_)
            by_cases c12 : 0 ≤ (ji11)
            · rw [if_pos c12] at H
              have c12b0 := eq_true c12
              have c12b1 : decide (0 ≤ (ji11)) = true := decide_eq_true c12
              clear c12
              by_cases c13 : (ji11 : Int).toNat ≤ 35184372088832
              · rw [if_pos c13] at H
                have c13b0 := eq_true c13
                have c13b1 : decide ((ji11 : Int).toNat ≤ 35184372088832) = true := decide_eq_true c13
                clear c13
                obtain ⟨y105, hy105⟩ : ∃ y_ : List Int, y_ = (List.replicate (ji11 : Int).toNat 0) := ⟨_, rfl⟩
                replace H : (pebble_Best.l0 kj2 a0 a1 ji9 y105 (y105.length : Int) 0) = some (r1, r2) := by first | (rw [hy105]; with_reducible exact H) | (have H2_ := (Option.bind_some _ _).symm.trans H; rw [hy105]; with_reducible exact H2_) | (have H2_ := (Option.bind_some _ _).symm.trans H; with_reducible exact H2_) | with_reducible exact H | (rw [hy105]; exact H) | exact H
                have Ny105 := Aside0.mk hy105
                clear hy105
                have H' := Aside0.mk H
                clear H
                go_wp2_with (first | ((with_reducible refine gate_dst (N := 36) rfl ?_); refine Kd.R_make (Kd.int .i64) _ 3 rfl (N := 36) rfl 23 _ _ rfl ji11 rfl rfl Try.underlying23 (.int .i64 0) 8 info3 rfl (by decide) (by omega) 0 (ok := fun _ => True) (okp := fun _ => True) rfl (fun _ hk => hk) trivial (of_decide_eq_true (by first | (with_reducible assumption) | assumption)) (Nat.le_trans (Nat.mul_le_mul_right _ (of_decide_eq_true (by first | (with_reducible assumption) | assumption) : ji11.toNat ≤ 35184372088832)) (by omega)) (Below.refl _ _) (Nat.le_refl _) ?_; intro v106 w14 ho15 hb hg_ hnew_; clear hg_ hnew_; (first | rw [← Ny105.out] at ho15 | (simp only [Int.reduceToNat] at ho15; rw [← Ny105.out] at ho15)); have n0_ := Aside0.mk (Kd.R_lower ho15 (below_size (by repeat (first | (with_reducible first | exact HB.out | apply below_alloc | apply pw_below_drewN | apply below_drew1) | exact HB.out)))); have n1_ := Aside0.mk (below_step (by repeat (first | (with_reducible first | exact HB.out | apply below_alloc | apply pw_below_drewN | apply below_drew1) | exact HB.out)) hb); clear HB; have HO107 := n0_; have HB := n1_; clear n0_ n1_; clear hb ho15; obtain ⟨Ao16, co16, eo16⟩ := Kd.R_slice HO107.out; subst eo16))
                repeat (go_quiet (first | ((with_reducible refine gate_dst (N := 36) rfl ?_); refine Kd.R_make (Kd.int .i64) _ 3 rfl (N := 36) rfl 23 _ _ rfl ji11 rfl rfl Try.underlying23 (.int .i64 0) 8 info3 rfl (by decide) (by omega) 0 (ok := fun _ => True) (okp := fun _ => True) rfl (fun _ hk => hk) trivial (of_decide_eq_true (by first | (with_reducible assumption) | assumption)) (Nat.le_trans (Nat.mul_le_mul_right _ (of_decide_eq_true (by first | (with_reducible assumption) | assumption) : ji11.toNat ≤ 35184372088832)) (by omega)) (Below.refl _ _) (Nat.le_refl _) ?_; intro v106 w14 ho15 hb hg_ hnew_; clear hg_ hnew_; (first | rw [← Ny105.out] at ho15 | (simp only [Int.reduceToNat] at ho15; rw [← Ny105.out] at ho15)); have n0_ := Aside0.mk (Kd.R_lower ho15 (below_size (by repeat (first | (with_reducible first | exact HB.out | apply below_alloc | apply pw_below_drewN | apply below_drew1) | exact HB.out)))); have n1_ := Aside0.mk (below_step (by repeat (first | (with_reducible first | exact HB.out | apply below_alloc | apply pw_below_drewN | apply below_drew1) | exact HB.out)) hb); clear HB; have HO107 := n0_; have HB := n1_; clear n0_ n1_; clear hb ho15; obtain ⟨Ao16, co16, eo16⟩ := Kd.R_slice HO107.out; subst eo16)); try go_wp2_with (first | ((with_reducible refine gate_dst (N := 36) rfl ?_); refine Kd.R_make (Kd.int .i64) _ 3 rfl (N := 36) rfl 23 _ _ rfl ji11 rfl rfl Try.underlying23 (.int .i64 0) 8 info3 rfl (by decide) (by omega) 0 (ok := fun _ => True) (okp := fun _ => True) rfl (fun _ hk => hk) trivial (of_decide_eq_true (by first | (with_reducible assumption) | assumption)) (Nat.le_trans (Nat.mul_le_mul_right _ (of_decide_eq_true (by first | (with_reducible assumption) | assumption) : ji11.toNat ≤ 35184372088832)) (by omega)) (Below.refl _ _) (Nat.le_refl _) ?_; intro v106 w14 ho15 hb hg_ hnew_; clear hg_ hnew_; (first | rw [← Ny105.out] at ho15 | (simp only [Int.reduceToNat] at ho15; rw [← Ny105.out] at ho15)); have n0_ := Aside0.mk (Kd.R_lower ho15 (below_size (by repeat (first | (with_reducible first | exact HB.out | apply below_alloc | apply pw_below_drewN | apply below_drew1) | exact HB.out)))); have n1_ := Aside0.mk (below_step (by repeat (first | (with_reducible first | exact HB.out | apply below_alloc | apply pw_below_drewN | apply below_drew1) | exact HB.out)) hb); clear HB; have HO107 := n0_; have HB := n1_; clear n0_ n1_; clear hb ho15; obtain ⟨Ao16, co16, eo16⟩ := Kd.R_slice HO107.out; subst eo16)))
                go_loopg [39] kj2 (fun kq v39 w' => ∃ (x7_2 : List Int) (x39_2 : Int), v39 = .int .i64 x39_2 ∧ Aside0 (pebble_Best.l0 kq a0 a1 ji9 x7_2 (y105.length : Int) x39_2 = some (r1, r2)) ∧ Aside0 (kq ≤ kj2) ∧ Aside0 (Kd.R (Kd.int .i64) 3 w' w.heap.size (fun _ => True) (.slice Ao16 y105.length co16) x7_2) ∧ Aside0 (Below w.heap.size w w'))
                case atStart => exact ⟨(y105), (0), (by first | rfl | (simp; done) | (simp [*]; done)), H', ⟨Nat.le_refl _⟩, ⟨by (with_reducible repeat (first | apply Kd.R_alloc | apply Kd.R_drewN | apply Kd.R_drew)); exact HO107.out⟩, ⟨by repeat (first | (with_reducible first | exact HB.out | apply below_alloc | apply pw_below_drewN | apply below_drew1) | exact HB.out)⟩⟩
                case round =>
                  clear H'
                  try clear c1
                  try clear p2
                  try clear c4
                  try clear c4b0
                  try clear c5
                  try clear c5b0
                  try clear c6
                  try clear p6
                  try clear c8
                  try clear c8b0
                  try clear c8b1
                  try clear c10
                  try clear c10b0
                  try clear c10b1
                  try clear c12
                  try clear c12b0
                  try clear c12b1
                  try clear c13
                  try clear c13b0
                  try clear c13b1
                  try clear c15
                  try clear p2
                  obtain ⟨x7_2, x39_2, rfl, HA, HK2, HO_7, HB⟩ := hrel
                  try clear hbx
                  have hbx := (HB.out.cell (p := ⟨B, 0, none⟩) hBlt).trans HBX.out
                  have hl7_2 := (Kd.R_reads' HO_7.out).1
                  rw [hl7_2] at HO_7
                  (try simp only [hl7_2])
                  cases gk with
                  | zero => exact absurd HA.out (by simp [pebble_Best.l0])
                  | succ k2 =>
                    have H := HA.out
                    clear HA
                    simp only [pebble_Best.l0] at H
                    by_cases c17 : x39_2 < (y105.length : Int)
                    · rw [if_pos c17] at H
                      have c17b0 : decide (x39_2 < (y105.length : Int)) = true := decide_eq_true c17
                      clear c17
                      by_cases c18 : 0 ≤ x39_2
                      · rw [if_pos c18] at H
                        have c18b0 : decide (0 ≤ x39_2) = true := decide_eq_true c18
                        clear c18
                        by_cases c19 : x39_2 < (x7_2.length : Int)
                        · rw [if_pos c19] at H
                          have c19b0 : decide (x39_2 < (x7_2.length : Int)) = true := decide_eq_true c19
                          clear c19
                          obtain ⟨y108, hy108⟩ : ∃ y_ : List Int, y_ = (x7_2.set (x39_2 : Int).toNat (-1)) := ⟨_, rfl⟩
                          replace H : (pebble_Best.l0 k2 a0 a1 ji9 y108 (y105.length : Int) (wrap64 (x39_2 + 1))) = some (r1, r2) := by first | (rw [hy108]; with_reducible exact H) | (have H2_ := (Option.bind_some _ _).symm.trans H; rw [hy108]; with_reducible exact H2_) | (have H2_ := (Option.bind_some _ _).symm.trans H; with_reducible exact H2_) | with_reducible exact H | (rw [hy108]; exact H) | exact H
                          have Ny108 := Aside0.mk hy108
                          clear hy108
                          have H' := Aside0.mk H
                          clear H
                          have p20 : 0 ≤ (x39_2 : Int) := of_decide_eq_true (by first | (with_reducible assumption) | assumption)
                          have q20 : (x39_2 : Int) < ((x7_2.length : Int) : Int) := of_decide_eq_true (by first | (with_reducible assumption) | assumption)
                          obtain ⟨go20, co20, eo20, gb20, gl20, cl20, HG20⟩ := Kd.R_form HO_7.out (by omega)
                          (first | cases eo20 | (injection eo20 with ea_ en_ ec_; (first | subst ea_ | (injection ea_ with ea_; subst ea_)); subst ec_; clear en_))
                          have GB20 := Aside0.mk gb20
                          have GG20 := Aside0.mk HG20
                          clear gb20 gl20 HG20
                          obtain ⟨hx20_0, hf20_0⟩ := Kd.R_celln 0 HO_7.out (x39_2 : Int) p20 q20
                          replace p20 := eq_true p20
                          replace q20 := eq_true q20
                          have HP21 := Kd.R_putg HO_7.out (x39_2 : Int) (-1)
                          go_wp2_with (first | ((with_reducible refine gate_store (t := 3) (p := 44) rfl ?_); (try (rw [drewN_self wr]; generalize hq_ : World.drewN wr _ = wr; have n0_ := Aside0.mk (Kd.R_at hq_ HO_7.out); have n1_ := Aside0.mk (below_at hq_ HB.out); clear hq_ HO_7 HB; have HO_7 := n0_; have HB := n1_; clear n0_ n1_; (try (have HP21 := Kd.R_putg HO_7.out (x39_2 : Int) (-1))))); refine store_event (t := 3) (p := 44) (v := ?vo_w22) (w1 := (wr.setCell ⟨go20, (x39_2 : Int).toNat, none⟩ (.int .i64 (-1)))) ?hg ?ho ?hn ?hr ?_; (case ho => rfl); (case hg => rfl); (case hn => rfl); (case hr => first | (go_simp; done) | (go_simp; rfl)); intro w22 hw; have hg : wr.grownBy w22 (some go20) := (by rw [hw]; exact HP21.2); have hp_ : Kd.R (Kd.int .i64) 3 w22 w.heap.size (fun _ => True) (.slice (some ⟨go20, 0, none⟩) x7_2.length co16) y108 := (by rw [hw, Ny108.out]; exact HP21.1); clear HP21; have n0_ := Aside0.mk (hp_); have n1_ := Aside0.mk ((by rw [hw]; exact below_set (HB.out) GB20.out : Below w.heap.size w w22)); clear HO_7; clear HB; have HO_7 := n0_; have HB := n1_; clear n0_ n1_; clear hg hw hp_))
                          repeat (go_quiet (first | ((with_reducible refine gate_store (t := 3) (p := 44) rfl ?_); (try (rw [drewN_self wr]; generalize hq_ : World.drewN wr _ = wr; have n0_ := Aside0.mk (Kd.R_at hq_ HO_7.out); have n1_ := Aside0.mk (below_at hq_ HB.out); clear hq_ HO_7 HB; have HO_7 := n0_; have HB := n1_; clear n0_ n1_; (try (have HP21 := Kd.R_putg HO_7.out (x39_2 : Int) (-1))))); refine store_event (t := 3) (p := 44) (v := ?vo_w22) (w1 := (wr.setCell ⟨go20, (x39_2 : Int).toNat, none⟩ (.int .i64 (-1)))) ?hg ?ho ?hn ?hr ?_; (case ho => rfl); (case hg => rfl); (case hn => rfl); (case hr => first | (go_simp; done) | (go_simp; rfl)); intro w22 hw; have hg : wr.grownBy w22 (some go20) := (by rw [hw]; exact HP21.2); have hp_ : Kd.R (Kd.int .i64) 3 w22 w.heap.size (fun _ => True) (.slice (some ⟨go20, 0, none⟩) x7_2.length co16) y108 := (by rw [hw, Ny108.out]; exact HP21.1); clear HP21; have n0_ := Aside0.mk (hp_); have n1_ := Aside0.mk ((by rw [hw]; exact below_set (HB.out) GB20.out : Below w.heap.size w w22)); clear HO_7; clear HB; have HO_7 := n0_; have HB := n1_; clear n0_ n1_; clear hg hw hp_)); try go_wp2_with (first | ((with_reducible refine gate_store (t := 3) (p := 44) rfl ?_); (try (rw [drewN_self wr]; generalize hq_ : World.drewN wr _ = wr; have n0_ := Aside0.mk (Kd.R_at hq_ HO_7.out); have n1_ := Aside0.mk (below_at hq_ HB.out); clear hq_ HO_7 HB; have HO_7 := n0_; have HB := n1_; clear n0_ n1_; (try (have HP21 := Kd.R_putg HO_7.out (x39_2 : Int) (-1))))); refine store_event (t := 3) (p := 44) (v := ?vo_w22) (w1 := (wr.setCell ⟨go20, (x39_2 : Int).toNat, none⟩ (.int .i64 (-1)))) ?hg ?ho ?hn ?hr ?_; (case ho => rfl); (case hg => rfl); (case hn => rfl); (case hr => first | (go_simp; done) | (go_simp; rfl)); intro w22 hw; have hg : wr.grownBy w22 (some go20) := (by rw [hw]; exact HP21.2); have hp_ : Kd.R (Kd.int .i64) 3 w22 w.heap.size (fun _ => True) (.slice (some ⟨go20, 0, none⟩) x7_2.length co16) y108 := (by rw [hw, Ny108.out]; exact HP21.1); clear HP21; have n0_ := Aside0.mk (hp_); have n1_ := Aside0.mk ((by rw [hw]; exact below_set (HB.out) GB20.out : Below w.heap.size w w22)); clear HO_7; clear HB; have HO_7 := n0_; have HB := n1_; clear n0_ n1_; clear hg hw hp_)))
                          (try simp only [← hl7_2])
                          go_roundg k2
                          case measure => have := HJ2.out; have := HK2.out; omega
                          case rel => exact ⟨(y108), (wrap64 (x39_2 + 1)), (by first | rfl | (simp; done) | (simp [*]; done)), H', ⟨by have := HJ2.out; have := HK2.out; omega⟩, ⟨by (try simp only [hl7_2]); (with_reducible repeat (first | apply Kd.R_alloc | apply Kd.R_drewN | apply Kd.R_drew)); exact HO_7.out⟩, ⟨by repeat (first | (with_reducible first | exact HB.out | apply below_alloc | apply pw_below_drewN | apply below_drew1) | exact HB.out)⟩⟩
                        · rw [if_neg c19] at H
                          exact absurd H (by simp)
                      · rw [if_neg c18] at H
                        exact absurd H (by simp)
                    · rw [if_neg c17] at H
                      have c17b0 : decide (x39_2 < (y105.length : Int)) = false := decide_eq_false c17
                      (try simp only [hl7_2] at c17b0)
                      clear c17
                      by_cases c23 : 0 ≤ ji9
                      · rw [if_pos c23] at H
                        have c23b0 : decide (0 ≤ ji9) = true := decide_eq_true c23
                        clear c23
                        by_cases c24 : ji9 < (x7_2.length : Int)
                        · rw [if_pos c24] at H
                          have c24b0 : decide (ji9 < (x7_2.length : Int)) = true := decide_eq_true c24
                          clear c24
                          obtain ⟨y109, hy109⟩ : ∃ y_ : List Int, y_ = (x7_2.set (ji9 : Int).toNat 0) := ⟨_, rfl⟩
                          replace H : (pebble_Best.l1 k2 a0 a1 ji9 y109 (([ji9] : List Int)) 0) = some (r1, r2) := by first | (rw [hy109]; with_reducible exact H) | (have H2_ := (Option.bind_some _ _).symm.trans H; rw [hy109]; with_reducible exact H2_) | (have H2_ := (Option.bind_some _ _).symm.trans H; with_reducible exact H2_) | with_reducible exact H | (rw [hy109]; exact H) | exact H
                          have Ny109 := Aside0.mk hy109
                          clear hy109
                          obtain ⟨y110, hy110⟩ : ∃ y_ : List Int, y_ = (([ji9] : List Int)) := ⟨_, rfl⟩
                          replace H : (pebble_Best.l1 k2 a0 a1 ji9 y109 y110 0) = some (r1, r2) := by first | (rw [hy110]; with_reducible exact H) | (have H2_ := (Option.bind_some _ _).symm.trans H; rw [hy110]; with_reducible exact H2_) | (have H2_ := (Option.bind_some _ _).symm.trans H; with_reducible exact H2_) | with_reducible exact H | (rw [hy110]; exact H) | exact H
                          have Ny110 := Aside0.mk hy110
                          clear hy110
                          have H' := Aside0.mk H
                          clear H
                          have p25 : 0 ≤ (ji9 : Int) := of_decide_eq_true (by first | (with_reducible assumption) | assumption)
                          have q25 : (ji9 : Int) < ((x7_2.length : Int) : Int) := of_decide_eq_true (by first | (with_reducible assumption) | assumption)
                          obtain ⟨go25, co25, eo25, gb25, gl25, cl25, HG25⟩ := Kd.R_form HO_7.out (by omega)
                          (first | cases eo25 | (injection eo25 with ea_ en_ ec_; (first | subst ea_ | (injection ea_ with ea_; subst ea_)); subst ec_; clear en_))
                          have GB25 := Aside0.mk gb25
                          have GG25 := Aside0.mk HG25
                          clear gb25 gl25 HG25
                          obtain ⟨hx25_0, hf25_0⟩ := Kd.R_celln 0 HO_7.out (ji9 : Int) p25 q25
                          replace p25 := eq_true p25
                          replace q25 := eq_true q25
                          have HP26 := Kd.R_putg HO_7.out (ji9 : Int) 0
                          go_wp2_with (first | ((with_reducible refine gate_store (t := 3) (p := 48) rfl ?_); (try (rw [drewN_self wr]; generalize hq_ : World.drewN wr _ = wr; have n0_ := Aside0.mk (Kd.R_at hq_ HO_7.out); have n1_ := Aside0.mk (below_at hq_ HB.out); clear hq_ HO_7 HB; have HO_7 := n0_; have HB := n1_; clear n0_ n1_; (try (have HP26 := Kd.R_putg HO_7.out (ji9 : Int) 0)))); refine store_event (t := 3) (p := 48) (v := ?vo_w27) (w1 := (wr.setCell ⟨go25, (ji9 : Int).toNat, none⟩ (.int .i64 0))) ?hg ?ho ?hn ?hr ?_; (case ho => rfl); (case hg => rfl); (case hn => rfl); (case hr => first | (go_simp; done) | (go_simp; rfl)); intro w27 hw; have hg : wr.grownBy w27 (some go25) := (by rw [hw]; exact HP26.2); have hp_ : Kd.R (Kd.int .i64) 3 w27 w.heap.size (fun _ => True) (.slice (some ⟨go25, 0, none⟩) x7_2.length co16) y109 := (by rw [hw, Ny109.out]; exact HP26.1); clear HP26; have n0_ := Aside0.mk (hp_); have n1_ := Aside0.mk ((by rw [hw]; exact below_set (HB.out) GB25.out : Below w.heap.size w w27)); clear HO_7; clear HB; have HO_7 := n0_; have HB := n1_; clear n0_ n1_; clear hg hw hp_) | ((with_reducible refine gate_dst (N := 51) rfl ?_); refine Kd.R_lit (Kd.int .u64) _ 48 ?hg (N := 51) ?hd (xs := ([ji9] : List Int)) (inner := [.int .u64 ji9]) (ok := fun _ => True) (okp := fun _ => True) ?hr ?hp (fun _ hk => hk) trivial (Below.refl _ _) (Nat.le_refl _) (by simp) ?_; (case hd => rfl); (case hg => rfl); (case hr => first | (go_simp; done) | (go_simp; rfl)); (case hp => exact (Reps.one (show Kd.M (Kd.int .u64) _ _ _ ji9 [.int .u64 ji9] from rfl) (Reps.none _ _))); intro v111 w28 ho29 hb hg_ hnew_; clear hg_ hnew_; (first | rw [← Ny110.out] at ho29 | (simp only [Int.reduceToNat] at ho29; rw [← Ny110.out] at ho29)); have n0_ := Aside0.mk (Kd.R_below (by (with_reducible repeat (first | apply Kd.R_alloc | apply Kd.R_drewN | apply Kd.R_drew)); exact HO_7.out) hb); have n1_ := Aside0.mk (Kd.R_lower ho29 (below_size (by repeat (first | (with_reducible first | exact HB.out | apply below_alloc | apply pw_below_drewN | apply below_drew1) | exact HB.out)))); have n2_ := Aside0.mk (below_step (by repeat (first | (with_reducible first | exact HB.out | apply below_alloc | apply pw_below_drewN | apply below_drew1) | exact HB.out)) hb); clear HO_7; clear HB; have HO_7 := n0_; have HO112 := n1_; have HB := n2_; clear n0_ n1_ n2_; clear hb ho29))
                          repeat (go_quiet (first | ((with_reducible refine gate_store (t := 3) (p := 48) rfl ?_); (try (rw [drewN_self wr]; generalize hq_ : World.drewN wr _ = wr; have n0_ := Aside0.mk (Kd.R_at hq_ HO_7.out); have n1_ := Aside0.mk (below_at hq_ HB.out); clear hq_ HO_7 HB; have HO_7 := n0_; have HB := n1_; clear n0_ n1_; (try (have HP26 := Kd.R_putg HO_7.out (ji9 : Int) 0)))); refine store_event (t := 3) (p := 48) (v := ?vo_w27) (w1 := (wr.setCell ⟨go25, (ji9 : Int).toNat, none⟩ (.int .i64 0))) ?hg ?ho ?hn ?hr ?_; (case ho => rfl); (case hg => rfl); (case hn => rfl); (case hr => first | (go_simp; done) | (go_simp; rfl)); intro w27 hw; have hg : wr.grownBy w27 (some go25) := (by rw [hw]; exact HP26.2); have hp_ : Kd.R (Kd.int .i64) 3 w27 w.heap.size (fun _ => True) (.slice (some ⟨go25, 0, none⟩) x7_2.length co16) y109 := (by rw [hw, Ny109.out]; exact HP26.1); clear HP26; have n0_ := Aside0.mk (hp_); have n1_ := Aside0.mk ((by rw [hw]; exact below_set (HB.out) GB25.out : Below w.heap.size w w27)); clear HO_7; clear HB; have HO_7 := n0_; have HB := n1_; clear n0_ n1_; clear hg hw hp_) | ((with_reducible refine gate_dst (N := 51) rfl ?_); refine Kd.R_lit (Kd.int .u64) _ 48 ?hg (N := 51) ?hd (xs := ([ji9] : List Int)) (inner := [.int .u64 ji9]) (ok := fun _ => True) (okp := fun _ => True) ?hr ?hp (fun _ hk => hk) trivial (Below.refl _ _) (Nat.le_refl _) (by simp) ?_; (case hd => rfl); (case hg => rfl); (case hr => first | (go_simp; done) | (go_simp; rfl)); (case hp => exact (Reps.one (show Kd.M (Kd.int .u64) _ _ _ ji9 [.int .u64 ji9] from rfl) (Reps.none _ _))); intro v111 w28 ho29 hb hg_ hnew_; clear hg_ hnew_; (first | rw [← Ny110.out] at ho29 | (simp only [Int.reduceToNat] at ho29; rw [← Ny110.out] at ho29)); have n0_ := Aside0.mk (Kd.R_below (by (with_reducible repeat (first | apply Kd.R_alloc | apply Kd.R_drewN | apply Kd.R_drew)); exact HO_7.out) hb); have n1_ := Aside0.mk (Kd.R_lower ho29 (below_size (by repeat (first | (with_reducible first | exact HB.out | apply below_alloc | apply pw_below_drewN | apply below_drew1) | exact HB.out)))); have n2_ := Aside0.mk (below_step (by repeat (first | (with_reducible first | exact HB.out | apply below_alloc | apply pw_below_drewN | apply below_drew1) | exact HB.out)) hb); clear HO_7; clear HB; have HO_7 := n0_; have HO112 := n1_; have HB := n2_; clear n0_ n1_ n2_; clear hb ho29)); try go_wp2_with (first | ((with_reducible refine gate_store (t := 3) (p := 48) rfl ?_); (try (rw [drewN_self wr]; generalize hq_ : World.drewN wr _ = wr; have n0_ := Aside0.mk (Kd.R_at hq_ HO_7.out); have n1_ := Aside0.mk (below_at hq_ HB.out); clear hq_ HO_7 HB; have HO_7 := n0_; have HB := n1_; clear n0_ n1_; (try (have HP26 := Kd.R_putg HO_7.out (ji9 : Int) 0)))); refine store_event (t := 3) (p := 48) (v := ?vo_w27) (w1 := (wr.setCell ⟨go25, (ji9 : Int).toNat, none⟩ (.int .i64 0))) ?hg ?ho ?hn ?hr ?_; (case ho => rfl); (case hg => rfl); (case hn => rfl); (case hr => first | (go_simp; done) | (go_simp; rfl)); intro w27 hw; have hg : wr.grownBy w27 (some go25) := (by rw [hw]; exact HP26.2); have hp_ : Kd.R (Kd.int .i64) 3 w27 w.heap.size (fun _ => True) (.slice (some ⟨go25, 0, none⟩) x7_2.length co16) y109 := (by rw [hw, Ny109.out]; exact HP26.1); clear HP26; have n0_ := Aside0.mk (hp_); have n1_ := Aside0.mk ((by rw [hw]; exact below_set (HB.out) GB25.out : Below w.heap.size w w27)); clear HO_7; clear HB; have HO_7 := n0_; have HB := n1_; clear n0_ n1_; clear hg hw hp_) | ((with_reducible refine gate_dst (N := 51) rfl ?_); refine Kd.R_lit (Kd.int .u64) _ 48 ?hg (N := 51) ?hd (xs := ([ji9] : List Int)) (inner := [.int .u64 ji9]) (ok := fun _ => True) (okp := fun _ => True) ?hr ?hp (fun _ hk => hk) trivial (Below.refl _ _) (Nat.le_refl _) (by simp) ?_; (case hd => rfl); (case hg => rfl); (case hr => first | (go_simp; done) | (go_simp; rfl)); (case hp => exact (Reps.one (show Kd.M (Kd.int .u64) _ _ _ ji9 [.int .u64 ji9] from rfl) (Reps.none _ _))); intro v111 w28 ho29 hb hg_ hnew_; clear hg_ hnew_; (first | rw [← Ny110.out] at ho29 | (simp only [Int.reduceToNat] at ho29; rw [← Ny110.out] at ho29)); have n0_ := Aside0.mk (Kd.R_below (by (with_reducible repeat (first | apply Kd.R_alloc | apply Kd.R_drewN | apply Kd.R_drew)); exact HO_7.out) hb); have n1_ := Aside0.mk (Kd.R_lower ho29 (below_size (by repeat (first | (with_reducible first | exact HB.out | apply below_alloc | apply pw_below_drewN | apply below_drew1) | exact HB.out)))); have n2_ := Aside0.mk (below_step (by repeat (first | (with_reducible first | exact HB.out | apply below_alloc | apply pw_below_drewN | apply below_drew1) | exact HB.out)) hb); clear HO_7; clear HB; have HO_7 := n0_; have HO112 := n1_; have HB := n2_; clear n0_ n1_ n2_; clear hb ho29)))
                          go_loopg [10, 11] k2 (fun kq v10 v11 w' => ∃ (x7_3 : List Int) (x10_3 : List Int) (x11_3 : Int), v11 = .int .i64 x11_3 ∧ Aside0 (pebble_Best.l1 kq a0 a1 ji9 x7_3 x10_3 x11_3 = some (r1, r2)) ∧ Aside0 (kq ≤ k2) ∧ Aside0 (Kd.R (Kd.int .i64) 3 w' w.heap.size (fun _ => True) (.slice (some ⟨go25, 0, none⟩) x7_2.length co16) x7_3) ∧ Aside0 (Kd.R (Kd.int .u64) 48 w' w.heap.size (fun _ => True) v10 x10_3) ∧ Aside0 (Below w.heap.size w w'))
                          case atStart => exact ⟨(y109), (y110), (0), (by first | rfl | (simp; done) | (simp [*]; done)), H', ⟨Nat.le_refl _⟩, ⟨by (try simp only [hl7_2]); (with_reducible repeat (first | apply Kd.R_alloc | apply Kd.R_drewN | apply Kd.R_drew)); exact HO_7.out⟩, ⟨by (try simp only [hl7_2]); (with_reducible repeat (first | apply Kd.R_alloc | apply Kd.R_drewN | apply Kd.R_drew)); exact HO112.out⟩, ⟨by repeat (first | (with_reducible first | exact HB.out | apply below_alloc | apply pw_below_drewN | apply below_drew1) | exact HB.out)⟩⟩
                          case round =>
                            clear H'
                            try clear c1
                            try clear c2
                            try clear p2
                            try clear q2
                            try clear hx2
                            try clear hf2
                            try clear c4
                            try clear c4b0
                            try clear c5
                            try clear c5b0
                            try clear c6
                            try clear p6
                            try clear c8
                            try clear c8b0
                            try clear c8b1
                            try clear c10
                            try clear c10b0
                            try clear c10b1
                            try clear c12
                            try clear c12b0
                            try clear c12b1
                            try clear c13
                            try clear c13b0
                            try clear c13b1
                            try clear c15
                            try clear c17
                            try clear c17b0
                            try clear c18
                            try clear c18b0
                            try clear c19
                            try clear c19b0
                            try clear p20
                            try clear q20
                            try clear hx20
                            try clear hf20
                            try clear c23
                            try clear c23b0
                            try clear c24
                            try clear c24b0
                            try clear p25
                            try clear q25
                            try clear hx25
                            try clear hf25
                            try clear hx20_0
                            try clear hx25_0
                            try clear p2
                            try clear p20
                            try clear p25
                            try clear p6
                            try clear q20
                            try clear q25
                            obtain ⟨x7_3, x10_3, x11_3, rfl, HA, HK3, HO_7, HO_10, HB⟩ := hrel
                            try clear hbx
                            have hbx := (HB.out.cell (p := ⟨B, 0, none⟩) hBlt).trans HBX.out
                            have hl7_3 := (Kd.R_reads' HO_7.out).1
                            rw [hl7_3] at HO_7
                            (try simp only [hl7_3])
                            (try simp only [hl7_3] at HO_10)
                            cases gk with
                            | zero => exact absurd HA.out (by simp [pebble_Best.l1])
                            | succ k3 =>
                              have H := HA.out
                              clear HA
                              simp only [pebble_Best.l1] at H
                              by_cases c30 : x11_3 < (x10_3.length : Int)
                              · rw [if_pos c30] at H
                                have c30b0 : decide (x11_3 < (x10_3.length : Int)) = true := decide_eq_true c30
                                clear c30
                                have H' := Aside0.mk H
                                clear H
                                obtain ⟨Ao31, co31, eo31⟩ := Kd.R_slice HO_10.out
                                subst eo31
                                go_wp2
                                repeat (go_quiet (fail); try go_wp2)
                                go_loopg [10, 12] k3 (fun kq v10 v12 w' => ∃ (x7_4 : List Int) (x10_4 : List Int) (x12_4 : Int), v12 = .int .i64 x12_4 ∧ Aside0 (pebble_Best.l2 kq a0 a1 ji9 x7_4 x10_4 x11_3 x12_4 = some (r1, r2)) ∧ Aside0 (kq ≤ k3) ∧ Aside0 (Kd.R (Kd.int .i64) 3 w' w.heap.size (fun _ => True) (.slice (some ⟨go25, 0, none⟩) x7_3.length co16) x7_4) ∧ Aside0 (Kd.R (Kd.int .u64) 48 w' w.heap.size (fun _ => True) v10 x10_4) ∧ Aside0 (Below w.heap.size w w'))
                                case atStart => exact ⟨(x7_3), (x10_3), (1), (by first | rfl | (simp; done) | (simp [*]; done)), H', ⟨Nat.le_refl _⟩, ⟨by (try simp only [hl7_2]); (try simp only [hl7_3]); (with_reducible repeat (first | apply Kd.R_alloc | apply Kd.R_drewN | apply Kd.R_drew)); exact HO_7.out⟩, ⟨by (try simp only [hl7_2]); (try simp only [hl7_3]); (with_reducible repeat (first | apply Kd.R_alloc | apply Kd.R_drewN | apply Kd.R_drew)); exact HO_10.out⟩, ⟨by repeat (first | (with_reducible first | exact HB.out | apply below_alloc | apply pw_below_drewN | apply below_drew1) | exact HB.out)⟩⟩
                                case round =>
                                  clear H'
                                  try clear c1
                                  try clear c2
                                  try clear p2
                                  try clear q2
                                  try clear hx2
                                  try clear hf2
                                  try clear c3
                                  try clear c4
                                  try clear c4b0
                                  try clear c5
                                  try clear c5b0
                                  try clear c6
                                  try clear p6
                                  try clear c8
                                  try clear c8b0
                                  try clear c8b1
                                  try clear c10
                                  try clear c10b0
                                  try clear c10b1
                                  try clear c12
                                  try clear c12b0
                                  try clear c12b1
                                  try clear c13
                                  try clear c13b0
                                  try clear c13b1
                                  try clear c15
                                  try clear c17
                                  try clear c17b0
                                  try clear c18
                                  try clear c18b0
                                  try clear c19
                                  try clear c19b0
                                  try clear p20
                                  try clear q20
                                  try clear hx20
                                  try clear hf20
                                  try clear c23
                                  try clear c23b0
                                  try clear c24
                                  try clear c24b0
                                  try clear p25
                                  try clear q25
                                  try clear hx25
                                  try clear hf25
                                  try clear c30
                                  try clear c30b0
                                  try clear hx20_0
                                  try clear hx25_0
                                  try clear p2
                                  try clear p20
                                  try clear p25
                                  try clear p6
                                  try clear q2
                                  try clear q20
                                  try clear q25
                                  obtain ⟨x7_4, x10_4, x12_4, rfl, HA, HK4, HO_7, HO_10, HB⟩ := hrel
                                  try clear hbx
                                  have hbx := (HB.out.cell (p := ⟨B, 0, none⟩) hBlt).trans HBX.out
                                  have hl7_4 := (Kd.R_reads' HO_7.out).1
                                  rw [hl7_4] at HO_7
                                  (try simp only [hl7_4])
                                  (try simp only [hl7_4] at HO_10)
                                  cases gk with
                                  | zero => exact absurd HA.out (by simp [pebble_Best.l2])
                                  | succ k4 =>
                                    have H := HA.out
                                    clear HA
                                    simp only [pebble_Best.l2] at H
                                    by_cases c32 : x12_4 ≤ a0
                                    · rw [if_pos c32] at H
                                      have c32b0 : decide (x12_4 ≤ a0) = true := decide_eq_true c32
                                      clear c32
                                      by_cases c33 : 0 ≤ x11_3
                                      · rw [if_pos c33] at H
                                        have c33b0 : decide (0 ≤ x11_3) = true := decide_eq_true c33
                                        clear c33
                                        by_cases c34 : x11_3 < (x10_4.length : Int)
                                        · rw [if_pos c34] at H
                                          have c34b0 : decide (x11_3 < (x10_4.length : Int)) = true := decide_eq_true c34
                                          clear c34
                                          replace H := Option.bind_eq_some_iff.mp H
                                          obtain ⟨⟨t114, t115⟩, A350, H⟩ := H
                                          replace H : (if t115 = true then (if 0 ≤ t114 then (if t114 < (x7_4.length : Int) then (if (rd x7_4 t114) < 0 then (if 0 ≤ (rd x10_4 x11_3) then (if (rd x10_4 x11_3) < (x7_4.length : Int) then (if x10_4.length < 17592186044416 then (pebble_Best.l2 k4 a0 a1 ji9 (x7_4.set (t114 : Int).toNat (wrap64 ((rd x7_4 (rd x10_4 x11_3)) + 1))) (x10_4 ++ [t114]) x11_3 (wrap64 (x12_4 + 1))) else (none)) else (none)) else (none)) else (pebble_Best.l2 k4 a0 a1 ji9 x7_4 x10_4 x11_3 (wrap64 (x12_4 + 1)))) else (none)) else (none)) else (pebble_Best.l2 k4 a0 a1 ji9 x7_4 x10_4 x11_3 (wrap64 (x12_4 + 1)))) = some (r1, r2) := H
                                          have A35 := Aside0.mk A350
                                          clear A350
                                          by_cases c36 : t115 = true
                                          · subst c36
                                            have H1 : (if 0 ≤ t114 then (if t114 < (x7_4.length : Int) then (if (rd x7_4 t114) < 0 then (if 0 ≤ (rd x10_4 x11_3) then (if (rd x10_4 x11_3) < (x7_4.length : Int) then (if x10_4.length < 17592186044416 then (pebble_Best.l2 k4 a0 a1 ji9 (x7_4.set (t114 : Int).toNat (wrap64 ((rd x7_4 (rd x10_4 x11_3)) + 1))) (x10_4 ++ [t114]) x11_3 (wrap64 (x12_4 + 1))) else (none)) else (none)) else (none)) else (pebble_Best.l2 k4 a0 a1 ji9 x7_4 x10_4 x11_3 (wrap64 (x12_4 + 1)))) else (none)) else (none)) = some (r1, r2) := by rw [if_pos rfl] at H; exact H
                                            clear H
                                            have H := H1
                                            clear H1
                                            by_cases c37 : 0 ≤ t114
                                            · rw [if_pos c37] at H
                                              have c37b0 : decide (0 ≤ t114) = true := decide_eq_true c37
                                              clear c37
                                              by_cases c38 : t114 < (x7_4.length : Int)
                                              · rw [if_pos c38] at H
                                                have c38b0 : decide (t114 < (x7_4.length : Int)) = true := decide_eq_true c38
                                                clear c38
                                                by_cases c39 : (rd x7_4 t114) < 0
                                                · rw [if_pos c39] at H
                                                  have c39b0 : decide ((rd x7_4 t114) < 0) = true := decide_eq_true c39
                                                  clear c39
                                                  by_cases c40 : 0 ≤ (rd x10_4 x11_3)
                                                  · rw [if_pos c40] at H
                                                    have c40b0 : decide (0 ≤ (rd x10_4 x11_3)) = true := decide_eq_true c40
                                                    clear c40
                                                    by_cases c41 : (rd x10_4 x11_3) < (x7_4.length : Int)
                                                    · rw [if_pos c41] at H
                                                      have c41b0 : decide ((rd x10_4 x11_3) < (x7_4.length : Int)) = true := decide_eq_true c41
                                                      clear c41
                                                      obtain ⟨y119, hy119⟩ : ∃ y_ : List Int, y_ = (x7_4.set (t114 : Int).toNat (wrap64 ((rd x7_4 (rd x10_4 x11_3)) + 1))) := ⟨_, rfl⟩
                                                      replace H : (if x10_4.length < 17592186044416 then (pebble_Best.l2 k4 a0 a1 ji9 y119 (x10_4 ++ [t114]) x11_3 (wrap64 (x12_4 + 1))) else (none)) = some (r1, r2) := by first | (rw [hy119]; with_reducible exact H) | (have H2_ := (Option.bind_some _ _).symm.trans H; rw [hy119]; with_reducible exact H2_) | (have H2_ := (Option.bind_some _ _).symm.trans H; with_reducible exact H2_) | with_reducible exact H | (rw [hy119]; exact H) | exact H
                                                      have Ny119 := Aside0.mk hy119
                                                      clear hy119
                                                      by_cases c43 : x10_4.length < 17592186044416
                                                      · rw [if_pos c43] at H
                                                        have LMc43 := Aside0.mk c43
                                                        clear c43
                                                        obtain ⟨y120, hy120⟩ : ∃ y_ : List Int, y_ = (x10_4 ++ [t114]) := ⟨_, rfl⟩
                                                        replace H : (pebble_Best.l2 k4 a0 a1 ji9 y119 y120 x11_3 (wrap64 (x12_4 + 1))) = some (r1, r2) := by first | (rw [hy120]; with_reducible exact H) | (have H2_ := (Option.bind_some _ _).symm.trans H; rw [hy120]; with_reducible exact H2_) | (have H2_ := (Option.bind_some _ _).symm.trans H; with_reducible exact H2_) | with_reducible exact H | (rw [hy120]; exact H) | exact H
                                                        have Ny120 := Aside0.mk hy120
                                                        clear hy120
                                                        have H' := Aside0.mk H
                                                        clear H
                                                        obtain ⟨Ao44, co44, eo44⟩ := Kd.R_slice HO_10.out
                                                        subst eo44
                                                        have p113 : 0 ≤ (x11_3 : Int) := of_decide_eq_true (by first | (with_reducible assumption) | assumption)
                                                        have q113 : x11_3 < (x10_4.length : Int) := of_decide_eq_true (by first | (with_reducible assumption) | assumption)
                                                        obtain ⟨ad113, e113, hx113_0⟩ := Kd.at_int (Kd.R_reads' HO_10.out).2.2 x11_3 p113 q113
                                                        cases e113
                                                        replace p113 := eq_true p113
                                                        replace q113 := eq_true q113
                                                        go_wp2_with (first | (go_at_call 27; (with_reducible refine (pebble_Best_1.calls k4 (rd x10_4 x11_3) x12_4 a1 t114 true _ B ?hbx_ A35.out).mono ?_); (case hbx_ => exact hbx); rintro e w' ⟨rfl, ⟨nd, rfl⟩⟩; (try first | exact ⟨rfl, _, World.drewN_drewN _ _ _⟩ | exact ⟨rfl, _, Eq.trans (World.drewN_drewN _ _ _) (congrArg (World.drewN _) (Nat.add_assoc _ _ _))⟩); have p116 : 0 ≤ (t114 : Int) := of_decide_eq_true (by first | (with_reducible assumption) | assumption); have q116 : t114 < (x7_4.length : Int) := of_decide_eq_true (by first | (with_reducible assumption) | assumption); obtain ⟨ad116, e116, hx116_0⟩ := Kd.at_int (Kd.R_reads' HO_7.out).2.2 t114 p116 q116; obtain rfl : (⟨go25, 0, none⟩ : Addr) = ad116 := (by injection e116); (first | simp only [add_plain] at hx116_0 | simp only [add_at] at hx116_0 | simp only [Addr.add, Nat.zero_add] at hx116_0 | skip); replace p116 := eq_true p116; replace q116 := eq_true q116; have p117 : 0 ≤ (x11_3 : Int) := of_decide_eq_true (by first | (with_reducible assumption) | assumption); have q117 : x11_3 < (x10_4.length : Int) := of_decide_eq_true (by first | (with_reducible assumption) | assumption); obtain ⟨ad117, e117, hx117_0⟩ := Kd.at_int (Kd.R_reads' HO_10.out).2.2 x11_3 p117 q117; obtain rfl : ad113 = ad117 := (by injection e117); replace p117 := eq_true p117; replace q117 := eq_true q117; have p118 : 0 ≤ ((rd x10_4 x11_3) : Int) := of_decide_eq_true (by first | (with_reducible assumption) | assumption); have q118 : (rd x10_4 x11_3) < (x7_4.length : Int) := of_decide_eq_true (by first | (with_reducible assumption) | assumption); obtain ⟨ad118, e118, hx118_0⟩ := Kd.at_int (Kd.R_reads' HO_7.out).2.2 (rd x10_4 x11_3) p118 q118; obtain rfl : (⟨go25, 0, none⟩ : Addr) = ad118 := (by injection e118); (first | simp only [add_plain] at hx118_0 | simp only [add_at] at hx118_0 | simp only [Addr.add, Nat.zero_add] at hx118_0 | skip); replace p118 := eq_true p118; replace q118 := eq_true q118; have p42 : 0 ≤ (t114 : Int) := of_decide_eq_true (by first | (with_reducible assumption) | assumption); have q42 : (t114 : Int) < ((x7_4.length : Int) : Int) := of_decide_eq_true (by first | (with_reducible assumption) | assumption); obtain ⟨hx42_0, hf42_0⟩ := Kd.R_celln 0 HO_7.out (t114 : Int) p42 q42; replace p42 := eq_true p42; replace q42 := eq_true q42; obtain ⟨hy45_, hz45_⟩ := Kd.R_celln 0 HO_7.out (t114 : Int) (of_decide_eq_true (by first | (with_reducible assumption) | assumption)) (of_decide_eq_true (by first | (with_reducible assumption) | assumption)); have HP45 := Kd.R_putg HO_7.out (t114 : Int) (wrap64 ((rd x7_4 (rd x10_4 x11_3)) + 1))) | ((with_reducible refine gate_store (t := 3) (p := 91) rfl ?_); (try (rw [drewN_self wr]; generalize hq_ : World.drewN wr _ = wr; have n0_ := Aside0.mk (Kd.R_at hq_ HO_7.out); have n1_ := Aside0.mk (Kd.R_at hq_ HO_10.out); have n2_ := Aside0.mk (below_at hq_ HB.out); clear hq_ HO_7 HO_10 HB; have HO_7 := n0_; have HO_10 := n1_; have HB := n2_; clear n0_ n1_ n2_; (try (obtain ⟨hy45_, hz45_⟩ := Kd.R_celln 0 HO_7.out (t114 : Int) (of_decide_eq_true (by first | (with_reducible assumption) | assumption)) (of_decide_eq_true (by first | (with_reducible assumption) | assumption)))); (try (have HP45 := Kd.R_putg HO_7.out (t114 : Int) (wrap64 ((rd x7_4 (rd x10_4 x11_3)) + 1)))))); refine store_event (t := 3) (p := 91) (v := ?vo_w46) (w1 := (wr.setCell ⟨go25, (t114 : Int).toNat, none⟩ (.int .i64 (wrap64 ((rd x7_4 (rd x10_4 x11_3)) + 1))))) ?hg ?ho ?hn ?hr ?_; (case ho => rfl); (case hg => rfl); (case hn => rfl); (case hr => first | (go_simp; done) | (go_simp; rfl)); intro w46 hw; have hg : wr.grownBy w46 (some go25) := (by rw [hw]; exact HP45.2); have hp_ : Kd.R (Kd.int .i64) 3 w46 w.heap.size (fun _ => True) (.slice (some ⟨go25, 0, none⟩) x7_4.length co16) y119 := (by rw [hw, Ny119.out]; exact HP45.1); clear HP45; have n0_ := Aside0.mk (hp_); have n1_ := Aside0.mk (Kd.R_over' (v := (.slice (some ⟨go25, 0, none⟩) x7_4.length co16)) (by (with_reducible repeat (first | apply Kd.R_alloc | apply Kd.R_drewN | apply Kd.R_drew)); exact HO_10.out) (Kd.R_typed HO_7.out) (by decide) hg); have n2_ := Aside0.mk ((by rw [hw]; exact below_set (HB.out) GB25.out : Below w.heap.size w w46)); clear HO_7; clear HO_10; clear HB; have HO_7 := n0_; have HO_10 := n1_; have HB := n2_; clear n0_ n1_ n2_; clear hg hw hp_) | ((with_reducible refine gate_builtin (b := .append) (xs := #[.tmp 92, .tmp 94]) rfl ?_); at_builtin; refine Kd.R_append (Kd.int .u64) (w0 := w) w.heap.size rfl (.tmp 92) (.tmp 94) 51 48 (.int .u64 0) 8 rfl Try.underlying51 info48 rfl (by decide) (by omega) (.slice (some ad113) x10_4.length co44) x10_4 t114 [.int .u64 t114] (fun _ => True) (fun _ => False) rfl rfl ?aP (fun _ hk => hk.elim) ?aF ?aO ?aB ?aS ?aL ?_; (case aP => exact rfl); (case aB => exact (by repeat (first | (with_reducible first | exact HB.out | apply below_alloc | apply pw_below_drewN | apply below_drew1) | exact HB.out))); (case aF => exact (fun _ _ => trivial)); (case aO => exact (by (with_reducible repeat (first | apply Kd.R_alloc | apply Kd.R_drewN | apply Kd.R_drew)); exact HO_10.out)); (case aS => exact (below_size (by repeat (first | (with_reducible first | exact HB.out | apply below_alloc | apply pw_below_drewN | apply below_drew1) | exact HB.out)))); (case aL => have := LMc43.out; omega); intro v121 w47 ho hb hg hat; rw [← Ny120.out] at ho; have n0_ := Aside0.mk (Kd.R_over' (by (with_reducible repeat (first | apply Kd.R_alloc | apply Kd.R_drewN | apply Kd.R_drew)); exact HO_7.out) (Kd.R_typed (by (with_reducible repeat (first | apply Kd.R_alloc | apply Kd.R_drewN | apply Kd.R_drew)); exact HO_10.out)) (by decide) hg); have n1_ := Aside0.mk (hb); have n2_ := Aside0.mk (ho); clear HO_7; clear HB; clear HO_10; have HO_7 := n0_; have HB := n1_; have HO122 := n2_; clear n0_ n1_ n2_; clear ho hb hg hat))
                                                        repeat (go_quiet (first | (go_at_call 27; (with_reducible refine (pebble_Best_1.calls k4 (rd x10_4 x11_3) x12_4 a1 t114 true _ B ?hbx_ A35.out).mono ?_); (case hbx_ => exact hbx); rintro e w' ⟨rfl, ⟨nd, rfl⟩⟩; (try first | exact ⟨rfl, _, World.drewN_drewN _ _ _⟩ | exact ⟨rfl, _, Eq.trans (World.drewN_drewN _ _ _) (congrArg (World.drewN _) (Nat.add_assoc _ _ _))⟩); have p116 : 0 ≤ (t114 : Int) := of_decide_eq_true (by first | (with_reducible assumption) | assumption); have q116 : t114 < (x7_4.length : Int) := of_decide_eq_true (by first | (with_reducible assumption) | assumption); obtain ⟨ad116, e116, hx116_0⟩ := Kd.at_int (Kd.R_reads' HO_7.out).2.2 t114 p116 q116; obtain rfl : (⟨go25, 0, none⟩ : Addr) = ad116 := (by injection e116); (first | simp only [add_plain] at hx116_0 | simp only [add_at] at hx116_0 | simp only [Addr.add, Nat.zero_add] at hx116_0 | skip); replace p116 := eq_true p116; replace q116 := eq_true q116; have p117 : 0 ≤ (x11_3 : Int) := of_decide_eq_true (by first | (with_reducible assumption) | assumption); have q117 : x11_3 < (x10_4.length : Int) := of_decide_eq_true (by first | (with_reducible assumption) | assumption); obtain ⟨ad117, e117, hx117_0⟩ := Kd.at_int (Kd.R_reads' HO_10.out).2.2 x11_3 p117 q117; obtain rfl : ad113 = ad117 := (by injection e117); replace p117 := eq_true p117; replace q117 := eq_true q117; have p118 : 0 ≤ ((rd x10_4 x11_3) : Int) := of_decide_eq_true (by first | (with_reducible assumption) | assumption); have q118 : (rd x10_4 x11_3) < (x7_4.length : Int) := of_decide_eq_true (by first | (with_reducible assumption) | assumption); obtain ⟨ad118, e118, hx118_0⟩ := Kd.at_int (Kd.R_reads' HO_7.out).2.2 (rd x10_4 x11_3) p118 q118; obtain rfl : (⟨go25, 0, none⟩ : Addr) = ad118 := (by injection e118); (first | simp only [add_plain] at hx118_0 | simp only [add_at] at hx118_0 | simp only [Addr.add, Nat.zero_add] at hx118_0 | skip); replace p118 := eq_true p118; replace q118 := eq_true q118; have p42 : 0 ≤ (t114 : Int) := of_decide_eq_true (by first | (with_reducible assumption) | assumption); have q42 : (t114 : Int) < ((x7_4.length : Int) : Int) := of_decide_eq_true (by first | (with_reducible assumption) | assumption); obtain ⟨hx42_0, hf42_0⟩ := Kd.R_celln 0 HO_7.out (t114 : Int) p42 q42; replace p42 := eq_true p42; replace q42 := eq_true q42; obtain ⟨hy45_, hz45_⟩ := Kd.R_celln 0 HO_7.out (t114 : Int) (of_decide_eq_true (by first | (with_reducible assumption) | assumption)) (of_decide_eq_true (by first | (with_reducible assumption) | assumption)); have HP45 := Kd.R_putg HO_7.out (t114 : Int) (wrap64 ((rd x7_4 (rd x10_4 x11_3)) + 1))) | ((with_reducible refine gate_store (t := 3) (p := 91) rfl ?_); (try (rw [drewN_self wr]; generalize hq_ : World.drewN wr _ = wr; have n0_ := Aside0.mk (Kd.R_at hq_ HO_7.out); have n1_ := Aside0.mk (Kd.R_at hq_ HO_10.out); have n2_ := Aside0.mk (below_at hq_ HB.out); clear hq_ HO_7 HO_10 HB; have HO_7 := n0_; have HO_10 := n1_; have HB := n2_; clear n0_ n1_ n2_; (try (obtain ⟨hy45_, hz45_⟩ := Kd.R_celln 0 HO_7.out (t114 : Int) (of_decide_eq_true (by first | (with_reducible assumption) | assumption)) (of_decide_eq_true (by first | (with_reducible assumption) | assumption)))); (try (have HP45 := Kd.R_putg HO_7.out (t114 : Int) (wrap64 ((rd x7_4 (rd x10_4 x11_3)) + 1)))))); refine store_event (t := 3) (p := 91) (v := ?vo_w46) (w1 := (wr.setCell ⟨go25, (t114 : Int).toNat, none⟩ (.int .i64 (wrap64 ((rd x7_4 (rd x10_4 x11_3)) + 1))))) ?hg ?ho ?hn ?hr ?_; (case ho => rfl); (case hg => rfl); (case hn => rfl); (case hr => first | (go_simp; done) | (go_simp; rfl)); intro w46 hw; have hg : wr.grownBy w46 (some go25) := (by rw [hw]; exact HP45.2); have hp_ : Kd.R (Kd.int .i64) 3 w46 w.heap.size (fun _ => True) (.slice (some ⟨go25, 0, none⟩) x7_4.length co16) y119 := (by rw [hw, Ny119.out]; exact HP45.1); clear HP45; have n0_ := Aside0.mk (hp_); have n1_ := Aside0.mk (Kd.R_over' (v := (.slice (some ⟨go25, 0, none⟩) x7_4.length co16)) (by (with_reducible repeat (first | apply Kd.R_alloc | apply Kd.R_drewN | apply Kd.R_drew)); exact HO_10.out) (Kd.R_typed HO_7.out) (by decide) hg); have n2_ := Aside0.mk ((by rw [hw]; exact below_set (HB.out) GB25.out : Below w.heap.size w w46)); clear HO_7; clear HO_10; clear HB; have HO_7 := n0_; have HO_10 := n1_; have HB := n2_; clear n0_ n1_ n2_; clear hg hw hp_) | ((with_reducible refine gate_builtin (b := .append) (xs := #[.tmp 92, .tmp 94]) rfl ?_); at_builtin; refine Kd.R_append (Kd.int .u64) (w0 := w) w.heap.size rfl (.tmp 92) (.tmp 94) 51 48 (.int .u64 0) 8 rfl Try.underlying51 info48 rfl (by decide) (by omega) (.slice (some ad113) x10_4.length co44) x10_4 t114 [.int .u64 t114] (fun _ => True) (fun _ => False) rfl rfl ?aP (fun _ hk => hk.elim) ?aF ?aO ?aB ?aS ?aL ?_; (case aP => exact rfl); (case aB => exact (by repeat (first | (with_reducible first | exact HB.out | apply below_alloc | apply pw_below_drewN | apply below_drew1) | exact HB.out))); (case aF => exact (fun _ _ => trivial)); (case aO => exact (by (with_reducible repeat (first | apply Kd.R_alloc | apply Kd.R_drewN | apply Kd.R_drew)); exact HO_10.out)); (case aS => exact (below_size (by repeat (first | (with_reducible first | exact HB.out | apply below_alloc | apply pw_below_drewN | apply below_drew1) | exact HB.out)))); (case aL => have := LMc43.out; omega); intro v121 w47 ho hb hg hat; rw [← Ny120.out] at ho; have n0_ := Aside0.mk (Kd.R_over' (by (with_reducible repeat (first | apply Kd.R_alloc | apply Kd.R_drewN | apply Kd.R_drew)); exact HO_7.out) (Kd.R_typed (by (with_reducible repeat (first | apply Kd.R_alloc | apply Kd.R_drewN | apply Kd.R_drew)); exact HO_10.out)) (by decide) hg); have n1_ := Aside0.mk (hb); have n2_ := Aside0.mk (ho); clear HO_7; clear HB; clear HO_10; have HO_7 := n0_; have HB := n1_; have HO122 := n2_; clear n0_ n1_ n2_; clear ho hb hg hat)); try go_wp2_with (first | (go_at_call 27; (with_reducible refine (pebble_Best_1.calls k4 (rd x10_4 x11_3) x12_4 a1 t114 true _ B ?hbx_ A35.out).mono ?_); (case hbx_ => exact hbx); rintro e w' ⟨rfl, ⟨nd, rfl⟩⟩; (try first | exact ⟨rfl, _, World.drewN_drewN _ _ _⟩ | exact ⟨rfl, _, Eq.trans (World.drewN_drewN _ _ _) (congrArg (World.drewN _) (Nat.add_assoc _ _ _))⟩); have p116 : 0 ≤ (t114 : Int) := of_decide_eq_true (by first | (with_reducible assumption) | assumption); have q116 : t114 < (x7_4.length : Int) := of_decide_eq_true (by first | (with_reducible assumption) | assumption); obtain ⟨ad116, e116, hx116_0⟩ := Kd.at_int (Kd.R_reads' HO_7.out).2.2 t114 p116 q116; obtain rfl : (⟨go25, 0, none⟩ : Addr) = ad116 := (by injection e116); (first | simp only [add_plain] at hx116_0 | simp only [add_at] at hx116_0 | simp only [Addr.add, Nat.zero_add] at hx116_0 | skip); replace p116 := eq_true p116; replace q116 := eq_true q116; have p117 : 0 ≤ (x11_3 : Int) := of_decide_eq_true (by first | (with_reducible assumption) | assumption); have q117 : x11_3 < (x10_4.length : Int) := of_decide_eq_true (by first | (with_reducible assumption) | assumption); obtain ⟨ad117, e117, hx117_0⟩ := Kd.at_int (Kd.R_reads' HO_10.out).2.2 x11_3 p117 q117; obtain rfl : ad113 = ad117 := (by injection e117); replace p117 := eq_true p117; replace q117 := eq_true q117; have p118 : 0 ≤ ((rd x10_4 x11_3) : Int) := of_decide_eq_true (by first | (with_reducible assumption) | assumption); have q118 : (rd x10_4 x11_3) < (x7_4.length : Int) := of_decide_eq_true (by first | (with_reducible assumption) | assumption); obtain ⟨ad118, e118, hx118_0⟩ := Kd.at_int (Kd.R_reads' HO_7.out).2.2 (rd x10_4 x11_3) p118 q118; obtain rfl : (⟨go25, 0, none⟩ : Addr) = ad118 := (by injection e118); (first | simp only [add_plain] at hx118_0 | simp only [add_at] at hx118_0 | simp only [Addr.add, Nat.zero_add] at hx118_0 | skip); replace p118 := eq_true p118; replace q118 := eq_true q118; have p42 : 0 ≤ (t114 : Int) := of_decide_eq_true (by first | (with_reducible assumption) | assumption); have q42 : (t114 : Int) < ((x7_4.length : Int) : Int) := of_decide_eq_true (by first | (with_reducible assumption) | assumption); obtain ⟨hx42_0, hf42_0⟩ := Kd.R_celln 0 HO_7.out (t114 : Int) p42 q42; replace p42 := eq_true p42; replace q42 := eq_true q42; obtain ⟨hy45_, hz45_⟩ := Kd.R_celln 0 HO_7.out (t114 : Int) (of_decide_eq_true (by first | (with_reducible assumption) | assumption)) (of_decide_eq_true (by first | (with_reducible assumption) | assumption)); have HP45 := Kd.R_putg HO_7.out (t114 : Int) (wrap64 ((rd x7_4 (rd x10_4 x11_3)) + 1))) | ((with_reducible refine gate_store (t := 3) (p := 91) rfl ?_); (try (rw [drewN_self wr]; generalize hq_ : World.drewN wr _ = wr; have n0_ := Aside0.mk (Kd.R_at hq_ HO_7.out); have n1_ := Aside0.mk (Kd.R_at hq_ HO_10.out); have n2_ := Aside0.mk (below_at hq_ HB.out); clear hq_ HO_7 HO_10 HB; have HO_7 := n0_; have HO_10 := n1_; have HB := n2_; clear n0_ n1_ n2_; (try (obtain ⟨hy45_, hz45_⟩ := Kd.R_celln 0 HO_7.out (t114 : Int) (of_decide_eq_true (by first | (with_reducible assumption) | assumption)) (of_decide_eq_true (by first | (with_reducible assumption) | assumption)))); (try (have HP45 := Kd.R_putg HO_7.out (t114 : Int) (wrap64 ((rd x7_4 (rd x10_4 x11_3)) + 1)))))); refine store_event (t := 3) (p := 91) (v := ?vo_w46) (w1 := (wr.setCell ⟨go25, (t114 : Int).toNat, none⟩ (.int .i64 (wrap64 ((rd x7_4 (rd x10_4 x11_3)) + 1))))) ?hg ?ho ?hn ?hr ?_; (case ho => rfl); (case hg => rfl); (case hn => rfl); (case hr => first | (go_simp; done) | (go_simp; rfl)); intro w46 hw; have hg : wr.grownBy w46 (some go25) := (by rw [hw]; exact HP45.2); have hp_ : Kd.R (Kd.int .i64) 3 w46 w.heap.size (fun _ => True) (.slice (some ⟨go25, 0, none⟩) x7_4.length co16) y119 := (by rw [hw, Ny119.out]; exact HP45.1); clear HP45; have n0_ := Aside0.mk (hp_); have n1_ := Aside0.mk (Kd.R_over' (v := (.slice (some ⟨go25, 0, none⟩) x7_4.length co16)) (by (with_reducible repeat (first | apply Kd.R_alloc | apply Kd.R_drewN | apply Kd.R_drew)); exact HO_10.out) (Kd.R_typed HO_7.out) (by decide) hg); have n2_ := Aside0.mk ((by rw [hw]; exact below_set (HB.out) GB25.out : Below w.heap.size w w46)); clear HO_7; clear HO_10; clear HB; have HO_7 := n0_; have HO_10 := n1_; have HB := n2_; clear n0_ n1_ n2_; clear hg hw hp_) | ((with_reducible refine gate_builtin (b := .append) (xs := #[.tmp 92, .tmp 94]) rfl ?_); at_builtin; refine Kd.R_append (Kd.int .u64) (w0 := w) w.heap.size rfl (.tmp 92) (.tmp 94) 51 48 (.int .u64 0) 8 rfl Try.underlying51 info48 rfl (by decide) (by omega) (.slice (some ad113) x10_4.length co44) x10_4 t114 [.int .u64 t114] (fun _ => True) (fun _ => False) rfl rfl ?aP (fun _ hk => hk.elim) ?aF ?aO ?aB ?aS ?aL ?_; (case aP => exact rfl); (case aB => exact (by repeat (first | (with_reducible first | exact HB.out | apply below_alloc | apply pw_below_drewN | apply below_drew1) | exact HB.out))); (case aF => exact (fun _ _ => trivial)); (case aO => exact (by (with_reducible repeat (first | apply Kd.R_alloc | apply Kd.R_drewN | apply Kd.R_drew)); exact HO_10.out)); (case aS => exact (below_size (by repeat (first | (with_reducible first | exact HB.out | apply below_alloc | apply pw_below_drewN | apply below_drew1) | exact HB.out)))); (case aL => have := LMc43.out; omega); intro v121 w47 ho hb hg hat; rw [← Ny120.out] at ho; have n0_ := Aside0.mk (Kd.R_over' (by (with_reducible repeat (first | apply Kd.R_alloc | apply Kd.R_drewN | apply Kd.R_drew)); exact HO_7.out) (Kd.R_typed (by (with_reducible repeat (first | apply Kd.R_alloc | apply Kd.R_drewN | apply Kd.R_drew)); exact HO_10.out)) (by decide) hg); have n1_ := Aside0.mk (hb); have n2_ := Aside0.mk (ho); clear HO_7; clear HB; clear HO_10; have HO_7 := n0_; have HB := n1_; have HO122 := n2_; clear n0_ n1_ n2_; clear ho hb hg hat)))
                                                        (try simp only [← hl7_4])
                                                        go_roundg k4
                                                        case measure => have := HJ2.out; have := HK2.out; have := HK3.out; have := HK4.out; omega
                                                        case rel => exact ⟨(y119), (y120), (wrap64 (x12_4 + 1)), (by first | rfl | (simp; done) | (simp [*]; done)), H', ⟨by have := HJ2.out; have := HK2.out; have := HK3.out; have := HK4.out; omega⟩, ⟨by (try simp only [hl7_2]); (try simp only [hl7_3]); (try simp only [hl7_4]); (with_reducible repeat (first | apply Kd.R_alloc | apply Kd.R_drewN | apply Kd.R_drew)); exact HO_7.out⟩, ⟨by (try simp only [hl7_2]); (try simp only [hl7_3]); (try simp only [hl7_4]); (with_reducible repeat (first | apply Kd.R_alloc | apply Kd.R_drewN | apply Kd.R_drew)); exact HO122.out⟩, ⟨by repeat (first | (with_reducible first | exact HB.out | apply below_alloc | apply pw_below_drewN | apply below_drew1) | exact HB.out)⟩⟩
                                                      · rw [if_neg c43] at H
                                                        exact absurd H (by simp)
                                                    · rw [if_neg c41] at H
                                                      exact absurd H (by simp)
                                                  · rw [if_neg c40] at H
                                                    exact absurd H (by simp)
                                                · rw [if_neg c39] at H
                                                  have c39b0 : decide ((rd x7_4 t114) < 0) = false := decide_eq_false c39
                                                  clear c39
                                                  have H' := Aside0.mk H
                                                  clear H
                                                  obtain ⟨Ao48, co48, eo48⟩ := Kd.R_slice HO_10.out
                                                  subst eo48
                                                  have p113 : 0 ≤ (x11_3 : Int) := of_decide_eq_true (by first | (with_reducible assumption) | assumption)
                                                  have q113 : x11_3 < (x10_4.length : Int) := of_decide_eq_true (by first | (with_reducible assumption) | assumption)
                                                  obtain ⟨ad113, e113, hx113_0⟩ := Kd.at_int (Kd.R_reads' HO_10.out).2.2 x11_3 p113 q113
                                                  cases e113
                                                  replace p113 := eq_true p113
                                                  replace q113 := eq_true q113
                                                  go_wp2_with (first | (go_at_call 27; (with_reducible refine (pebble_Best_1.calls k4 (rd x10_4 x11_3) x12_4 a1 t114 true _ B ?hbx_ A35.out).mono ?_); (case hbx_ => exact hbx); rintro e w' ⟨rfl, ⟨nd, rfl⟩⟩; (try first | exact ⟨rfl, _, World.drewN_drewN _ _ _⟩ | exact ⟨rfl, _, Eq.trans (World.drewN_drewN _ _ _) (congrArg (World.drewN _) (Nat.add_assoc _ _ _))⟩); have p116 : 0 ≤ (t114 : Int) := of_decide_eq_true (by first | (with_reducible assumption) | assumption); have q116 : t114 < (x7_4.length : Int) := of_decide_eq_true (by first | (with_reducible assumption) | assumption); obtain ⟨ad116, e116, hx116_0⟩ := Kd.at_int (Kd.R_reads' HO_7.out).2.2 t114 p116 q116; obtain rfl : (⟨go25, 0, none⟩ : Addr) = ad116 := (by injection e116); (first | simp only [add_plain] at hx116_0 | simp only [add_at] at hx116_0 | simp only [Addr.add, Nat.zero_add] at hx116_0 | skip); replace p116 := eq_true p116; replace q116 := eq_true q116))
                                                  repeat (go_quiet (first | (go_at_call 27; (with_reducible refine (pebble_Best_1.calls k4 (rd x10_4 x11_3) x12_4 a1 t114 true _ B ?hbx_ A35.out).mono ?_); (case hbx_ => exact hbx); rintro e w' ⟨rfl, ⟨nd, rfl⟩⟩; (try first | exact ⟨rfl, _, World.drewN_drewN _ _ _⟩ | exact ⟨rfl, _, Eq.trans (World.drewN_drewN _ _ _) (congrArg (World.drewN _) (Nat.add_assoc _ _ _))⟩); have p116 : 0 ≤ (t114 : Int) := of_decide_eq_true (by first | (with_reducible assumption) | assumption); have q116 : t114 < (x7_4.length : Int) := of_decide_eq_true (by first | (with_reducible assumption) | assumption); obtain ⟨ad116, e116, hx116_0⟩ := Kd.at_int (Kd.R_reads' HO_7.out).2.2 t114 p116 q116; obtain rfl : (⟨go25, 0, none⟩ : Addr) = ad116 := (by injection e116); (first | simp only [add_plain] at hx116_0 | simp only [add_at] at hx116_0 | simp only [Addr.add, Nat.zero_add] at hx116_0 | skip); replace p116 := eq_true p116; replace q116 := eq_true q116)); try go_wp2_with (first | (go_at_call 27; (with_reducible refine (pebble_Best_1.calls k4 (rd x10_4 x11_3) x12_4 a1 t114 true _ B ?hbx_ A35.out).mono ?_); (case hbx_ => exact hbx); rintro e w' ⟨rfl, ⟨nd, rfl⟩⟩; (try first | exact ⟨rfl, _, World.drewN_drewN _ _ _⟩ | exact ⟨rfl, _, Eq.trans (World.drewN_drewN _ _ _) (congrArg (World.drewN _) (Nat.add_assoc _ _ _))⟩); have p116 : 0 ≤ (t114 : Int) := of_decide_eq_true (by first | (with_reducible assumption) | assumption); have q116 : t114 < (x7_4.length : Int) := of_decide_eq_true (by first | (with_reducible assumption) | assumption); obtain ⟨ad116, e116, hx116_0⟩ := Kd.at_int (Kd.R_reads' HO_7.out).2.2 t114 p116 q116; obtain rfl : (⟨go25, 0, none⟩ : Addr) = ad116 := (by injection e116); (first | simp only [add_plain] at hx116_0 | simp only [add_at] at hx116_0 | simp only [Addr.add, Nat.zero_add] at hx116_0 | skip); replace p116 := eq_true p116; replace q116 := eq_true q116)))
                                                  (try simp only [← hl7_4])
                                                  go_roundg k4
                                                  case measure => have := HJ2.out; have := HK2.out; have := HK3.out; have := HK4.out; omega
                                                  case rel => exact ⟨(x7_4), (x10_4), (wrap64 (x12_4 + 1)), (by first | rfl | (simp; done) | (simp [*]; done)), H', ⟨by have := HJ2.out; have := HK2.out; have := HK3.out; have := HK4.out; omega⟩, ⟨by (try simp only [hl7_2]); (try simp only [hl7_3]); (try simp only [hl7_4]); (with_reducible repeat (first | apply Kd.R_alloc | apply Kd.R_drewN | apply Kd.R_drew)); exact HO_7.out⟩, ⟨by (try simp only [hl7_2]); (try simp only [hl7_3]); (try simp only [hl7_4]); (with_reducible repeat (first | apply Kd.R_alloc | apply Kd.R_drewN | apply Kd.R_drew)); exact HO_10.out⟩, ⟨by repeat (first | (with_reducible first | exact HB.out | apply below_alloc | apply pw_below_drewN | apply below_drew1) | exact HB.out)⟩⟩
                                              · rw [if_neg c38] at H
                                                exact absurd H (by simp)
                                            · rw [if_neg c37] at H
                                              exact absurd H (by simp)
                                          · replace c36 := Bool.eq_false_iff.mpr c36
                                            subst c36
                                            have H1 : (pebble_Best.l2 k4 a0 a1 ji9 x7_4 x10_4 x11_3 (wrap64 (x12_4 + 1))) = some (r1, r2) := by rw [if_neg (show ¬ (false = true) by decide)] at H; exact H
                                            clear H
                                            have H := H1
                                            clear H1
                                            have H' := Aside0.mk H
                                            clear H
                                            obtain ⟨Ao49, co49, eo49⟩ := Kd.R_slice HO_10.out
                                            subst eo49
                                            have p113 : 0 ≤ (x11_3 : Int) := of_decide_eq_true (by first | (with_reducible assumption) | assumption)
                                            have q113 : x11_3 < (x10_4.length : Int) := of_decide_eq_true (by first | (with_reducible assumption) | assumption)
                                            obtain ⟨ad113, e113, hx113_0⟩ := Kd.at_int (Kd.R_reads' HO_10.out).2.2 x11_3 p113 q113
                                            cases e113
                                            replace p113 := eq_true p113
                                            replace q113 := eq_true q113
                                            go_wp2_with (first | (go_at_call 27; (with_reducible refine (pebble_Best_1.calls k4 (rd x10_4 x11_3) x12_4 a1 t114 false _ B ?hbx_ A35.out).mono ?_); (case hbx_ => exact hbx); rintro e w' ⟨rfl, ⟨nd, rfl⟩⟩; (try first | exact ⟨rfl, _, World.drewN_drewN _ _ _⟩ | exact ⟨rfl, _, Eq.trans (World.drewN_drewN _ _ _) (congrArg (World.drewN _) (Nat.add_assoc _ _ _))⟩)))
                                            repeat (go_quiet (first | (go_at_call 27; (with_reducible refine (pebble_Best_1.calls k4 (rd x10_4 x11_3) x12_4 a1 t114 false _ B ?hbx_ A35.out).mono ?_); (case hbx_ => exact hbx); rintro e w' ⟨rfl, ⟨nd, rfl⟩⟩; (try first | exact ⟨rfl, _, World.drewN_drewN _ _ _⟩ | exact ⟨rfl, _, Eq.trans (World.drewN_drewN _ _ _) (congrArg (World.drewN _) (Nat.add_assoc _ _ _))⟩))); try go_wp2_with (first | (go_at_call 27; (with_reducible refine (pebble_Best_1.calls k4 (rd x10_4 x11_3) x12_4 a1 t114 false _ B ?hbx_ A35.out).mono ?_); (case hbx_ => exact hbx); rintro e w' ⟨rfl, ⟨nd, rfl⟩⟩; (try first | exact ⟨rfl, _, World.drewN_drewN _ _ _⟩ | exact ⟨rfl, _, Eq.trans (World.drewN_drewN _ _ _) (congrArg (World.drewN _) (Nat.add_assoc _ _ _))⟩))))
                                            (try simp only [← hl7_4])
                                            go_roundg k4
                                            case measure => have := HJ2.out; have := HK2.out; have := HK3.out; have := HK4.out; omega
                                            case rel => exact ⟨(x7_4), (x10_4), (wrap64 (x12_4 + 1)), (by first | rfl | (simp; done) | (simp [*]; done)), H', ⟨by have := HJ2.out; have := HK2.out; have := HK3.out; have := HK4.out; omega⟩, ⟨by (try simp only [hl7_2]); (try simp only [hl7_3]); (try simp only [hl7_4]); (with_reducible repeat (first | apply Kd.R_alloc | apply Kd.R_drewN | apply Kd.R_drew)); exact HO_7.out⟩, ⟨by (try simp only [hl7_2]); (try simp only [hl7_3]); (try simp only [hl7_4]); (with_reducible repeat (first | apply Kd.R_alloc | apply Kd.R_drewN | apply Kd.R_drew)); exact HO_10.out⟩, ⟨by repeat (first | (with_reducible first | exact HB.out | apply below_alloc | apply pw_below_drewN | apply below_drew1) | exact HB.out)⟩⟩
                                        · rw [if_neg c34] at H
                                          exact absurd H (by simp)
                                      · rw [if_neg c33] at H
                                        exact absurd H (by simp)
                                    · rw [if_neg c32] at H
                                      have c32b0 : decide (x12_4 ≤ a0) = false := decide_eq_false c32
                                      clear c32
                                      have H' := Aside0.mk H
                                      clear H
                                      go_wp2
                                      repeat (go_quiet (fail); try go_wp2)
                                      (try simp only [← hl7_3, ← hl7_4])
                                      go_roundg k4
                                      case measure => have := HJ2.out; have := HK2.out; have := HK3.out; have := HK4.out; omega
                                      case rel => exact ⟨(x7_4), (x10_4), (wrap64 (x11_3 + 1)), (by first | rfl | (simp; done) | (simp [*]; done)), H', ⟨by have := HJ2.out; have := HK2.out; have := HK3.out; have := HK4.out; omega⟩, ⟨by (try simp only [hl7_2]); (try simp only [hl7_3]); (try simp only [hl7_4]); (with_reducible repeat (first | apply Kd.R_alloc | apply Kd.R_drewN | apply Kd.R_drew)); exact HO_7.out⟩, ⟨by (try simp only [hl7_2]); (try simp only [hl7_3]); (try simp only [hl7_4]); (with_reducible repeat (first | apply Kd.R_alloc | apply Kd.R_drewN | apply Kd.R_drew)); exact HO_10.out⟩, ⟨by repeat (first | (with_reducible first | exact HB.out | apply below_alloc | apply pw_below_drewN | apply below_drew1) | exact HB.out)⟩⟩
                              · rw [if_neg c30] at H
                                have c30b0 : decide (x11_3 < (x10_3.length : Int)) = false := decide_eq_false c30
                                clear c30
                                by_cases c50 : 0 < (x7_3.length : Int)
                                · rw [if_pos c50] at H
                                  have c50b0 : decide (0 < (x7_3.length : Int)) = true := decide_eq_true c50
                                  have c50b1 : decide (0 < x7_3.length) = true := decide_eq_true (by omega)
                                  clear c50
                                  by_cases c51 : (rd x7_3 0) < 0
                                  · rw [if_pos c51] at H
                                    have c51b0 : decide ((rd x7_3 0) < 0) = true := decide_eq_true c51
                                    clear c51
                                    simp only [Option.some.injEq, Prod.mk.injEq] at H
                                    obtain ⟨rfl, rfl⟩ := H
                                    obtain ⟨Ao52, co52, eo52⟩ := Kd.R_slice HO_10.out
                                    subst eo52
                                    have p123 : 0 ≤ (0 : Int) := (by omega)
                                    have q123 : 0 < (x7_3.length : Int) := of_decide_eq_true (by first | (with_reducible assumption) | assumption)
                                    obtain ⟨ad123, e123, hx123_0⟩ := Kd.at_int (Kd.R_reads' HO_7.out).2.2 0 p123 q123
                                    obtain rfl : (⟨go25, 0, none⟩ : Addr) = ad123 := (by injection e123)
                                    (first | simp only [add_plain] at hx123_0 | simp only [add_at] at hx123_0 | simp only [Addr.add, Nat.zero_add] at hx123_0 | skip)
                                    have qi123 : (0 < x7_3.length) = True := eq_true (by omega)
                                    (try rw [show ((0 : Int)).toNat = 0 from rfl] at hx123_0)
                                    (try rw [Addr.add_zero'] at hx123_0)
                                    replace p123 := eq_true p123
                                    replace q123 := eq_true q123
                                    go_wp2
                                    repeat (go_quiet (fail); try go_wp2)
                                    go_ret2
                                    exact ⟨_, by first | rfl | (simp [errW_none, errW_some] <;> rfl) | (simp only [← hji7, ← hji9, ← hji11]; first | rfl | (simp [errW_none, errW_some] <;> rfl)) | (simp [*, errW_none, errW_some] <;> rfl), by first | exact Kd.R_nil _ _ _ _ _ | exact Kd.N_nil _ _ _ _ _ | exact Kd.V_nil _ _ _ _ _ | exact Kd.Q_nil _ _ _ _ _ | exact Kd.S_nil _ _ _ _ _, by repeat (first | (with_reducible first | exact HB.out | apply below_alloc | apply pw_below_drewN | apply below_drew1) | exact HB.out)⟩
                                  · rw [if_neg c51] at H
                                    have c51b0 : decide ((rd x7_3 0) < 0) = false := decide_eq_false c51
                                    clear c51
                                    have H' := Aside0.mk H
                                    clear H
                                    obtain ⟨Ao53, co53, eo53⟩ := Kd.R_slice HO_10.out
                                    subst eo53
                                    have p123 : 0 ≤ (0 : Int) := (by omega)
                                    have q123 : 0 < (x7_3.length : Int) := of_decide_eq_true (by first | (with_reducible assumption) | assumption)
                                    obtain ⟨ad123, e123, hx123_0⟩ := Kd.at_int (Kd.R_reads' HO_7.out).2.2 0 p123 q123
                                    obtain rfl : (⟨go25, 0, none⟩ : Addr) = ad123 := (by injection e123)
                                    (first | simp only [add_plain] at hx123_0 | simp only [add_at] at hx123_0 | simp only [Addr.add, Nat.zero_add] at hx123_0 | skip)
                                    have qi123 : (0 < x7_3.length) = True := eq_true (by omega)
                                    (try rw [show ((0 : Int)).toNat = 0 from rfl] at hx123_0)
                                    (try rw [Addr.add_zero'] at hx123_0)
                                    replace p123 := eq_true p123
                                    replace q123 := eq_true q123
                                    go_wp2
                                    repeat (go_quiet (fail); try go_wp2)
                                    go_loopg [15, 16] k3 (fun kq v15 v16 w' => ∃ (x15_4 : List Int) (x16_4 : Int), v16 = .int .u64 x16_4 ∧ Aside0 (pebble_Best.l3 kq a0 a1 ji9 x7_3 x15_4 x16_4 = some (r1, r2)) ∧ Aside0 (kq ≤ k3) ∧ Aside0 (Kd.R (Kd.int .i64) 3 w' w.heap.size (fun k_ => some k_ ≠ (v15 : Value).ownBlock) (.slice (some ⟨go25, 0, none⟩) x7_3.length co16) x7_3) ∧ Aside0 (Kd.R (Kd.int .i64) 3 w' w.heap.size (fun k_ => some k_ ≠ ((.slice (some ⟨go25, 0, none⟩) x7_3.length co16) : Value).ownBlock) v15 x15_4) ∧ Aside0 (Below w.heap.size w w'))
                                    case atStart => exact ⟨(([] : List Int)), (0), (by first | rfl | (simp; done) | (simp [*]; done)), H', ⟨Nat.le_refl _⟩, ⟨by (try simp only [hl7_2]); (try simp only [hl7_3]); (with_reducible repeat (first | apply Kd.R_alloc | apply Kd.R_drewN | apply Kd.R_drew)); exact Kd.R_mono HO_7.out (fun _ hk => (by simp [Value.ownBlock]))⟩, ⟨by (try simp only [hl7_2]); (try simp only [hl7_3]); first | exact Kd.R_nil _ _ _ _ _ | exact Kd.N_nil _ _ _ _ _ | exact Kd.V_nil _ _ _ _ _ | exact Kd.Q_nil _ _ _ _ _ | exact Kd.S_nil _ _ _ _ _⟩, ⟨by repeat (first | (with_reducible first | exact HB.out | apply below_alloc | apply pw_below_drewN | apply below_drew1) | exact HB.out)⟩⟩
                                    case round =>
                                      clear H'
                                      try clear c1
                                      try clear p1
                                      try clear q1
                                      try clear hx1
                                      try clear qi1
                                      try clear c2
                                      try clear p2
                                      try clear q2
                                      try clear hx2
                                      try clear hf2
                                      try clear c3
                                      try clear c4
                                      try clear c4b0
                                      try clear p4
                                      try clear q4
                                      try clear hx4
                                      try clear hf4
                                      try clear c5
                                      try clear c5b0
                                      try clear c6
                                      try clear p6
                                      try clear c8
                                      try clear c8b0
                                      try clear c8b1
                                      try clear c10
                                      try clear c10b0
                                      try clear c10b1
                                      try clear p11
                                      try clear q11
                                      try clear hx11
                                      try clear c12
                                      try clear c12b0
                                      try clear c12b1
                                      try clear p12
                                      try clear q12
                                      try clear hx12
                                      try clear qi12
                                      try clear c13
                                      try clear c13b0
                                      try clear c13b1
                                      try clear c15
                                      try clear c17
                                      try clear c17b0
                                      try clear c18
                                      try clear c18b0
                                      try clear c19
                                      try clear c19b0
                                      try clear p20
                                      try clear q20
                                      try clear hx20
                                      try clear hf20
                                      try clear c23
                                      try clear c23b0
                                      try clear c24
                                      try clear c24b0
                                      try clear p25
                                      try clear q25
                                      try clear hx25
                                      try clear hf25
                                      try clear c30
                                      try clear c30b0
                                      try clear c32
                                      try clear c32b0
                                      try clear c33
                                      try clear c33b0
                                      try clear c34
                                      try clear c34b0
                                      try clear c36
                                      try clear c37
                                      try clear c37b0
                                      try clear c38
                                      try clear c38b0
                                      try clear c39
                                      try clear c39b0
                                      try clear c40
                                      try clear c40b0
                                      try clear c41
                                      try clear c41b0
                                      try clear p42
                                      try clear q42
                                      try clear hx42
                                      try clear hf42
                                      try clear c43
                                      try clear c50
                                      try clear c50b0
                                      try clear c50b1
                                      try clear c51
                                      try clear c51b0
                                      try clear hx113_0
                                      try clear hx116_0
                                      try clear hx117_0
                                      try clear hx118_0
                                      try clear hx123_0
                                      try clear hx20_0
                                      try clear hx25_0
                                      try clear hx42_0
                                      try clear p113
                                      try clear p116
                                      try clear p117
                                      try clear p118
                                      try clear p123
                                      try clear p2
                                      try clear p20
                                      try clear p25
                                      try clear p42
                                      try clear p6
                                      try clear q113
                                      try clear q116
                                      try clear q117
                                      try clear q118
                                      try clear q123
                                      try clear q2
                                      try clear q20
                                      try clear q25
                                      try clear q42
                                      obtain ⟨x15_4, x16_4, rfl, HA, HK4, HO_7, HO_15, HB⟩ := hrel
                                      try clear hbx
                                      have hbx := (HB.out.cell (p := ⟨B, 0, none⟩) hBlt).trans HBX.out
                                      cases gk with
                                      | zero => exact absurd HA.out (by simp [pebble_Best.l3])
                                      | succ k4 =>
                                        have H := HA.out
                                        clear HA
                                        simp only [pebble_Best.l3] at H
                                        by_cases c54 : x16_4 = ji9
                                        · rw [if_pos c54] at H
                                          have c54b0 : (x16_4 == ji9) = true := beq_iff_eq.mpr c54
                                          have c54b1 : (x16_4 != ji9) = false := bne_eq_false_iff_eq.mpr c54
                                          clear c54
                                          simp only [Option.some.injEq, Prod.mk.injEq] at H
                                          obtain ⟨rfl, rfl⟩ := H
                                          go_wp2
                                          repeat (go_quiet (fail); try go_wp2)
                                          go_ret2
                                          exact ⟨_, by first | rfl | (simp [errW_none, errW_some] <;> rfl) | (simp only [← hji7, ← hji9, ← hji11]; first | rfl | (simp [errW_none, errW_some] <;> rfl)) | (simp [*, errW_none, errW_some] <;> rfl), by (with_reducible repeat (first | apply Kd.R_alloc | apply Kd.R_drewN | apply Kd.R_drew)); exact Kd.R_mono HO_15.out (fun _ hk => trivial), by repeat (first | (with_reducible first | exact HB.out | apply below_alloc | apply pw_below_drewN | apply below_drew1) | exact HB.out)⟩
                                        · rw [if_neg c54] at H
                                          have c54b0 : (x16_4 == ji9) = false := beq_eq_false_iff_ne.mpr c54
                                          have c54b1 : (x16_4 != ji9) = true := bne_iff_ne.mpr c54
                                          have H' := Aside0.mk H
                                          clear H
                                          go_wp2
                                          repeat (go_quiet (fail); try go_wp2)
                                          go_loopg [15, 16, 17] k4 (fun kq v15 v16 v17 w' => ∃ (x15_5 : List Int) (x16_5 : Int) (x17_5 : Int), v16 = .int .u64 x16_5 ∧ v17 = .int .i64 x17_5 ∧ Aside0 (pebble_Best.l4 kq a0 a1 ji9 x7_3 x15_5 x16_5 x17_5 = some (r1, r2)) ∧ Aside0 (kq ≤ k4) ∧ Aside0 (Kd.R (Kd.int .i64) 3 w' w.heap.size (fun k_ => some k_ ≠ (v15 : Value).ownBlock) (.slice (some ⟨go25, 0, none⟩) x7_3.length co16) x7_3) ∧ Aside0 (Kd.R (Kd.int .i64) 3 w' w.heap.size (fun k_ => some k_ ≠ ((.slice (some ⟨go25, 0, none⟩) x7_3.length co16) : Value).ownBlock) v15 x15_5) ∧ Aside0 (Below w.heap.size w w'))
                                          case atStart => exact ⟨(x15_4), (x16_4), (wrap64 (-a0)), (by first | rfl | (simp; done) | (simp [*]; done)), (by first | rfl | (simp; done) | (simp [*]; done)), H', ⟨Nat.le_refl _⟩, ⟨by (try simp only [hl7_2]); (try simp only [hl7_3]); (with_reducible repeat (first | apply Kd.R_alloc | apply Kd.R_drewN | apply Kd.R_drew)); exact HO_7.out⟩, ⟨by (try simp only [hl7_2]); (try simp only [hl7_3]); (with_reducible repeat (first | apply Kd.R_alloc | apply Kd.R_drewN | apply Kd.R_drew)); exact HO_15.out⟩, ⟨by repeat (first | (with_reducible first | exact HB.out | apply below_alloc | apply pw_below_drewN | apply below_drew1) | exact HB.out)⟩⟩
                                          case round =>
                                            clear H'
                                            try clear c1
                                            try clear p1
                                            try clear q1
                                            try clear hx1
                                            try clear qi1
                                            try clear c2
                                            try clear p2
                                            try clear q2
                                            try clear hx2
                                            try clear hf2
                                            try clear c3
                                            try clear c4
                                            try clear c4b0
                                            try clear p4
                                            try clear q4
                                            try clear hx4
                                            try clear hf4
                                            try clear c5
                                            try clear c5b0
                                            try clear c6
                                            try clear p6
                                            try clear c8
                                            try clear c8b0
                                            try clear c8b1
                                            try clear c10
                                            try clear c10b0
                                            try clear c10b1
                                            try clear p11
                                            try clear q11
                                            try clear hx11
                                            try clear c12
                                            try clear c12b0
                                            try clear c12b1
                                            try clear p12
                                            try clear q12
                                            try clear hx12
                                            try clear qi12
                                            try clear c13
                                            try clear c13b0
                                            try clear c13b1
                                            try clear c15
                                            try clear c17
                                            try clear c17b0
                                            try clear c18
                                            try clear c18b0
                                            try clear c19
                                            try clear c19b0
                                            try clear p20
                                            try clear q20
                                            try clear hx20
                                            try clear hf20
                                            try clear c23
                                            try clear c23b0
                                            try clear c24
                                            try clear c24b0
                                            try clear p25
                                            try clear q25
                                            try clear hx25
                                            try clear hf25
                                            try clear c30
                                            try clear c30b0
                                            try clear c32
                                            try clear c32b0
                                            try clear c33
                                            try clear c33b0
                                            try clear c34
                                            try clear c34b0
                                            try clear c36
                                            try clear c37
                                            try clear c37b0
                                            try clear c38
                                            try clear c38b0
                                            try clear c39
                                            try clear c39b0
                                            try clear c40
                                            try clear c40b0
                                            try clear c41
                                            try clear c41b0
                                            try clear p42
                                            try clear q42
                                            try clear hx42
                                            try clear hf42
                                            try clear c43
                                            try clear c50
                                            try clear c50b0
                                            try clear c50b1
                                            try clear c51
                                            try clear c51b0
                                            try clear c54
                                            try clear c54b0
                                            try clear c54b1
                                            try clear hx113_0
                                            try clear hx116_0
                                            try clear hx117_0
                                            try clear hx118_0
                                            try clear hx123_0
                                            try clear hx20_0
                                            try clear hx25_0
                                            try clear hx42_0
                                            try clear p1
                                            try clear p11
                                            try clear p113
                                            try clear p116
                                            try clear p117
                                            try clear p118
                                            try clear p12
                                            try clear p123
                                            try clear p2
                                            try clear p20
                                            try clear p25
                                            try clear p4
                                            try clear p42
                                            try clear p6
                                            try clear q1
                                            try clear q11
                                            try clear q113
                                            try clear q116
                                            try clear q117
                                            try clear q118
                                            try clear q12
                                            try clear q123
                                            try clear q2
                                            try clear q20
                                            try clear q25
                                            try clear q4
                                            try clear q42
                                            obtain ⟨x15_5, x16_5, x17_5, rfl, rfl, HA, HK5, HO_7, HO_15, HB⟩ := hrel
                                            try clear hbx
                                            have hbx := (HB.out.cell (p := ⟨B, 0, none⟩) hBlt).trans HBX.out
                                            cases gk with
                                            | zero => exact absurd HA.out (by simp [pebble_Best.l4])
                                            | succ k5 =>
                                              have H := HA.out
                                              clear HA
                                              simp only [pebble_Best.l4] at H
                                              by_cases c55 : x17_5 ≤ a0
                                              · rw [if_pos c55] at H
                                                have c55b0 : decide (x17_5 ≤ a0) = true := decide_eq_true c55
                                                clear c55
                                                obtain ⟨ji56, hji56⟩ : ∃ j_ : Int, (mx x17_5 (wrap64 (-x17_5))) = j_ := ⟨_, rfl⟩
                                                replace H : (if x17_5 = 0 then (pebble_Best.j6 k5 a0 a1 ji9 x7_3 x15_5 x16_5 x17_5 ji56 true) else (if 0 ≤ (wrap64 ((ji56) - 1)) then (pebble_Best.j6 k5 a0 a1 ji9 x7_3 x15_5 x16_5 x17_5 ji56 (((Go.bits .and .u64 (shr .u64 x16_5 (wrap64 ((ji56) - 1))) 1) == 1) == (decide (x17_5 > 0)))) else (none))) = some (r1, r2) := by first | (rw [hji56] at H; exact H) | (simp only [hji56] at H ⊢; exact H)
                                                have hji56_ : (if x17_5 < (wrap64 (-x17_5)) then (wrap64 (-x17_5)) else x17_5) = ji56 := hji56
                                                have HC57 := Aside0.mk H
                                                clear H
                                                go_upto_region 32 with (fail)
                                                repeat (go_quiet (fail); go_upto_region 32 with (fail))
                                                go_cut [126] (fun v126 wc => ∃ (kq : Nat) (x126_56 : Bool), v126 = .bool x126_56 ∧ Aside0 (pebble_Best.j6 kq a0 a1 ji9 x7_3 x15_5 x16_5 x17_5 ji56 x126_56 = some (r1, r2)) ∧ Aside0 (kq ≤ k5) ∧ Aside0 (Kd.R (Kd.int .i64) 3 wc w.heap.size (fun k_ => some k_ ≠ (u15 : Value).ownBlock) (.slice (some ⟨go25, 0, none⟩) x7_3.length co16) x7_3) ∧ Aside0 (Kd.R (Kd.int .i64) 3 wc w.heap.size (fun k_ => some k_ ≠ ((.slice (some ⟨go25, 0, none⟩) x7_3.length co16) : Value).ownBlock) u15 x15_5) ∧ Aside0 (Below w.heap.size w wc))
                                                case first =>
                                                  have H := HC57.out
                                                  clear HC57
                                                  by_cases c58 : x17_5 = 0
                                                  · rw [if_pos c58] at H
                                                    have c58b0 : (x17_5 == 0) = true := beq_iff_eq.mpr c58
                                                    have c58b1 : (x17_5 != 0) = false := bne_eq_false_iff_eq.mpr c58
                                                    clear c58
                                                    (first | rw [c58b0] | (simp only [i64_w, i32_w]; rw [c58b0]) | skip)
                                                    have H' := Aside0.mk H
                                                    clear H
                                                    go_wp2
                                                    repeat (go_quiet (fail); try go_wp2)
                                                    go_meet
                                                    case rel => exact ⟨_, (true), (by first | rfl | (simp; done) | (simp [*]; done)), H', ⟨by have := HJ2.out; have := HK2.out; have := HK3.out; have := HK4.out; have := HK5.out; first | omega | exact Nat.le_refl _⟩, ⟨by (try simp only [hl7_2]); (try simp only [hl7_3]); (with_reducible repeat (first | apply Kd.R_alloc | apply Kd.R_drewN | apply Kd.R_drew)); exact HO_7.out⟩, ⟨by (try simp only [hl7_2]); (try simp only [hl7_3]); (with_reducible repeat (first | apply Kd.R_alloc | apply Kd.R_drewN | apply Kd.R_drew)); exact HO_15.out⟩, ⟨by repeat (first | (with_reducible first | exact HB.out | apply below_alloc | apply pw_below_drewN | apply below_drew1) | exact HB.out)⟩⟩
                                                  · rw [if_neg c58] at H
                                                    have c58b0 : (x17_5 == 0) = false := beq_eq_false_iff_ne.mpr c58
                                                    have c58b1 : (x17_5 != 0) = true := bne_iff_ne.mpr c58
                                                    (first | rw [c58b0] | (simp only [i64_w, i32_w]; rw [c58b0]) | skip)
                                                    obtain ⟨ji59, hji59⟩ : ∃ j_ : Int, (wrap64 ((ji56) - 1)) = j_ := ⟨_, rfl⟩
                                                    replace H : (if 0 ≤ (ji59) then (pebble_Best.j6 k5 a0 a1 ji9 x7_3 x15_5 x16_5 x17_5 ji56 (((Go.bits .and .u64 (shr .u64 x16_5 (ji59)) 1) == 1) == (decide (x17_5 > 0)))) else (none)) = some (r1, r2) := by first | (rw [hji59] at H; exact H) | (simp only [hji59] at H ⊢; exact H)
                                                    have hji59w : (IntKind.i64.wrap ((ji56) - 1)) = ji59 := (i64_w _).trans hji59
                                                    by_cases c60 : 0 ≤ (ji59)
                                                    · rw [if_pos c60] at H
                                                      have c60b0 := eq_true c60
                                                      have c60b1 : decide (0 ≤ (ji59)) = true := decide_eq_true c60
                                                      clear c60
                                                      obtain ⟨ji61, hji61⟩ : ∃ j_ : Int, (shr .u64 x16_5 (ji59)) = j_ := ⟨_, rfl⟩
                                                      replace H : (pebble_Best.j6 k5 a0 a1 ji9 x7_3 x15_5 x16_5 x17_5 ji56 (((Go.bits .and .u64 (ji61) 1) == 1) == (decide (x17_5 > 0)))) = some (r1, r2) := by first | (rw [hji61] at H; exact H) | (simp only [hji61] at H ⊢; exact H)
                                                      have hji61_ : (x16_5 / 2 ^ min (ji59).toNat 64) = ji61 := hji61
                                                      have hji61z : (ji59) ≤ 64 → (x16_5 / 2 ^ (ji59).toNat) = ji61 := shr_small hji61
                                                      have H' := Aside0.mk H
                                                      clear H
                                                      go_wp2
                                                      repeat (go_quiet (fail); try go_wp2)
                                                      go_meet
                                                      case rel => exact ⟨_, ((((Go.bits .and .u64 (ji61) 1) == 1) == (decide (x17_5 > 0)))), (by first | rfl | (simp; done) | (simp only [← hji61] <;> (first | rfl | simp)) | (simp [*]; done)), H', ⟨by have := HJ2.out; have := HK2.out; have := HK3.out; have := HK4.out; have := HK5.out; first | omega | exact Nat.le_refl _⟩, ⟨by (try simp only [hl7_2]); (try simp only [hl7_3]); (with_reducible repeat (first | apply Kd.R_alloc | apply Kd.R_drewN | apply Kd.R_drew)); exact HO_7.out⟩, ⟨by (try simp only [hl7_2]); (try simp only [hl7_3]); (with_reducible repeat (first | apply Kd.R_alloc | apply Kd.R_drewN | apply Kd.R_drew)); exact HO_15.out⟩, ⟨by repeat (first | (with_reducible first | exact HB.out | apply below_alloc | apply pw_below_drewN | apply below_drew1) | exact HB.out)⟩⟩
                                                    · rw [if_neg c60] at H
                                                      exact absurd H (by simp)
                                                case rest =>
                                                  clear HC57
                                                  try clear c1
                                                  try clear p1
                                                  try clear q1
                                                  try clear hx1
                                                  try clear qi1
                                                  try clear c2
                                                  try clear p2
                                                  try clear q2
                                                  try clear hx2
                                                  try clear hf2
                                                  try clear c3
                                                  try clear c4
                                                  try clear c4b0
                                                  try clear p4
                                                  try clear q4
                                                  try clear hx4
                                                  try clear hf4
                                                  try clear c5
                                                  try clear c5b0
                                                  try clear c6
                                                  try clear p6
                                                  try clear c8
                                                  try clear c8b0
                                                  try clear c8b1
                                                  try clear c10
                                                  try clear c10b0
                                                  try clear c10b1
                                                  try clear p11
                                                  try clear q11
                                                  try clear hx11
                                                  try clear c12
                                                  try clear c12b0
                                                  try clear c12b1
                                                  try clear p12
                                                  try clear q12
                                                  try clear hx12
                                                  try clear qi12
                                                  try clear c13
                                                  try clear c13b0
                                                  try clear c13b1
                                                  try clear c15
                                                  try clear c17
                                                  try clear c17b0
                                                  try clear c18
                                                  try clear c18b0
                                                  try clear c19
                                                  try clear c19b0
                                                  try clear p20
                                                  try clear q20
                                                  try clear hx20
                                                  try clear hf20
                                                  try clear c23
                                                  try clear c23b0
                                                  try clear c24
                                                  try clear c24b0
                                                  try clear p25
                                                  try clear q25
                                                  try clear hx25
                                                  try clear hf25
                                                  try clear c30
                                                  try clear c30b0
                                                  try clear c32
                                                  try clear c32b0
                                                  try clear c33
                                                  try clear c33b0
                                                  try clear c34
                                                  try clear c34b0
                                                  try clear c36
                                                  try clear c37
                                                  try clear c37b0
                                                  try clear c38
                                                  try clear c38b0
                                                  try clear c39
                                                  try clear c39b0
                                                  try clear c40
                                                  try clear c40b0
                                                  try clear c41
                                                  try clear c41b0
                                                  try clear p42
                                                  try clear q42
                                                  try clear hx42
                                                  try clear hf42
                                                  try clear c43
                                                  try clear c50
                                                  try clear c50b0
                                                  try clear c50b1
                                                  try clear c51
                                                  try clear c51b0
                                                  try clear c54
                                                  try clear c54b0
                                                  try clear c54b1
                                                  try clear c55
                                                  try clear c55b0
                                                  try clear c58
                                                  try clear c58b0
                                                  try clear c58b1
                                                  try clear c60
                                                  try clear c60b0
                                                  try clear c60b1
                                                  try clear hx113_0
                                                  try clear hx116_0
                                                  try clear hx117_0
                                                  try clear hx118_0
                                                  try clear hx123_0
                                                  try clear hx20_0
                                                  try clear hx25_0
                                                  try clear hx42_0
                                                  try clear p1
                                                  try clear p11
                                                  try clear p113
                                                  try clear p116
                                                  try clear p117
                                                  try clear p118
                                                  try clear p12
                                                  try clear p123
                                                  try clear p2
                                                  try clear p20
                                                  try clear p25
                                                  try clear p4
                                                  try clear p42
                                                  try clear p6
                                                  try clear q1
                                                  try clear q11
                                                  try clear q113
                                                  try clear q116
                                                  try clear q117
                                                  try clear q118
                                                  try clear q12
                                                  try clear q123
                                                  try clear q2
                                                  try clear q20
                                                  try clear q25
                                                  try clear q4
                                                  try clear q42
                                                  obtain ⟨kq, x126_56, rfl, HA, HJ56, HO_7, HO_15, HB⟩ := hcut
                                                  try clear hbx
                                                  have hbx := (HB.out.cell (p := ⟨B, 0, none⟩) hBlt).trans HBX.out
                                                  cases kq with
                                                  | zero => exact absurd HA.out (by simp [pebble_Best.j6])
                                                  | succ kj56 =>
                                                    have H := HA.out
                                                    clear HA
                                                    simp only [pebble_Best.j6] at H
                                                    by_cases c62 : x126_56 = true
                                                    · subst c62
                                                      have H1 : (pebble_Best.l4 kj56 a0 a1 ji9 x7_3 x15_5 x16_5 (wrap64 (x17_5 + 1))) = some (r1, r2) := by rw [if_pos rfl] at H; exact H
                                                      clear H
                                                      have H := H1
                                                      clear H1
                                                      have H' := Aside0.mk H
                                                      clear H
                                                      go_wp2
                                                      repeat (go_quiet (fail); try go_wp2)
                                                      go_roundg kj56
                                                      case measure => have := HJ2.out; have := HK2.out; have := HK3.out; have := HK4.out; have := HK5.out; have := HJ56.out; omega
                                                      case rel => exact ⟨(x15_5), (x16_5), (wrap64 (x17_5 + 1)), (by first | rfl | (simp; done) | (simp [*]; done)), (by first | rfl | (simp; done) | (simp [*]; done)), H', ⟨by have := HJ2.out; have := HK2.out; have := HK3.out; have := HK4.out; have := HK5.out; have := HJ56.out; omega⟩, ⟨by (try simp only [hl7_2]); (try simp only [hl7_3]); (with_reducible repeat (first | apply Kd.R_alloc | apply Kd.R_drewN | apply Kd.R_drew)); exact HO_7.out⟩, ⟨by (try simp only [hl7_2]); (try simp only [hl7_3]); (with_reducible repeat (first | apply Kd.R_alloc | apply Kd.R_drewN | apply Kd.R_drew)); exact HO_15.out⟩, ⟨by repeat (first | (with_reducible first | exact HB.out | apply below_alloc | apply pw_below_drewN | apply below_drew1) | exact HB.out)⟩⟩
                                                    · replace c62 := Bool.eq_false_iff.mpr c62
                                                      subst c62
                                                      have H1 : ((pebble_Best_1.f kj56 x16_5 ji56 a1).bind fun bt124 => (if bt124.2 = true then (if 0 ≤ bt124.1 then (if bt124.1 < (x7_3.length : Int) then (if 0 ≤ x16_5 then (if x16_5 < (x7_3.length : Int) then (if (rd x7_3 bt124.1) = (wrap64 ((rd x7_3 x16_5) - 1)) then (if x15_5.length < 17592186044416 then (pebble_Best.l3 kj56 a0 a1 ji9 x7_3 (x15_5 ++ [x17_5]) bt124.1) else (none)) else (pebble_Best.l4 kj56 a0 a1 ji9 x7_3 x15_5 x16_5 (wrap64 (x17_5 + 1)))) else (none)) else (none)) else (none)) else (none)) else (pebble_Best.l4 kj56 a0 a1 ji9 x7_3 x15_5 x16_5 (wrap64 (x17_5 + 1))))) = some (r1, r2) := by rw [if_neg (show ¬ (false = true) by decide)] at H; exact H
                                                      clear H
                                                      have H := H1
                                                      clear H1
                                                      replace H := Option.bind_eq_some_iff.mp H
                                                      obtain ⟨⟨t124, t125⟩, A630, H⟩ := H
                                                      replace H : (if t125 = true then (if 0 ≤ t124 then (if t124 < (x7_3.length : Int) then (if 0 ≤ x16_5 then (if x16_5 < (x7_3.length : Int) then (if (rd x7_3 t124) = (wrap64 ((rd x7_3 x16_5) - 1)) then (if x15_5.length < 17592186044416 then (pebble_Best.l3 kj56 a0 a1 ji9 x7_3 (x15_5 ++ [x17_5]) t124) else (none)) else (pebble_Best.l4 kj56 a0 a1 ji9 x7_3 x15_5 x16_5 (wrap64 (x17_5 + 1)))) else (none)) else (none)) else (none)) else (none)) else (pebble_Best.l4 kj56 a0 a1 ji9 x7_3 x15_5 x16_5 (wrap64 (x17_5 + 1)))) = some (r1, r2) := H
                                                      have A63 := Aside0.mk A630
                                                      clear A630
                                                      by_cases c64 : t125 = true
                                                      · subst c64
                                                        have H1 : (if 0 ≤ t124 then (if t124 < (x7_3.length : Int) then (if 0 ≤ x16_5 then (if x16_5 < (x7_3.length : Int) then (if (rd x7_3 t124) = (wrap64 ((rd x7_3 x16_5) - 1)) then (if x15_5.length < 17592186044416 then (pebble_Best.l3 kj56 a0 a1 ji9 x7_3 (x15_5 ++ [x17_5]) t124) else (none)) else (pebble_Best.l4 kj56 a0 a1 ji9 x7_3 x15_5 x16_5 (wrap64 (x17_5 + 1)))) else (none)) else (none)) else (none)) else (none)) = some (r1, r2) := by rw [if_pos rfl] at H; exact H
                                                        clear H
                                                        have H := H1
                                                        clear H1
                                                        by_cases c65 : 0 ≤ t124
                                                        · rw [if_pos c65] at H
                                                          have c65b0 : decide (0 ≤ t124) = true := decide_eq_true c65
                                                          clear c65
                                                          by_cases c66 : t124 < (x7_3.length : Int)
                                                          · rw [if_pos c66] at H
                                                            have c66b0 : decide (t124 < (x7_3.length : Int)) = true := decide_eq_true c66
                                                            clear c66
                                                            by_cases c67 : 0 ≤ x16_5
                                                            · rw [if_pos c67] at H
                                                              have c67b0 : decide (0 ≤ x16_5) = true := decide_eq_true c67
                                                              clear c67
                                                              by_cases c68 : x16_5 < (x7_3.length : Int)
                                                              · rw [if_pos c68] at H
                                                                have c68b0 : decide (x16_5 < (x7_3.length : Int)) = true := decide_eq_true c68
                                                                clear c68
                                                                by_cases c69 : (rd x7_3 t124) = (wrap64 ((rd x7_3 x16_5) - 1))
                                                                · rw [if_pos c69] at H
                                                                  have c69b0 : ((rd x7_3 t124) == (wrap64 ((rd x7_3 x16_5) - 1))) = true := beq_iff_eq.mpr c69
                                                                  have c69b1 : ((rd x7_3 t124) != (wrap64 ((rd x7_3 x16_5) - 1))) = false := bne_eq_false_iff_eq.mpr c69
                                                                  clear c69
                                                                  by_cases c70 : x15_5.length < 17592186044416
                                                                  · rw [if_pos c70] at H
                                                                    have LMc70 := Aside0.mk c70
                                                                    clear c70
                                                                    obtain ⟨y128, hy128⟩ : ∃ y_ : List Int, y_ = (x15_5 ++ [x17_5]) := ⟨_, rfl⟩
                                                                    replace H : (pebble_Best.l3 kj56 a0 a1 ji9 x7_3 y128 t124) = some (r1, r2) := by first | (rw [hy128]; with_reducible exact H) | (have H2_ := (Option.bind_some _ _).symm.trans H; rw [hy128]; with_reducible exact H2_) | (have H2_ := (Option.bind_some _ _).symm.trans H; with_reducible exact H2_) | with_reducible exact H | (rw [hy128]; exact H) | exact H
                                                                    have Ny128 := Aside0.mk hy128
                                                                    clear hy128
                                                                    have H' := Aside0.mk H
                                                                    clear H
                                                                    go_wp2_with (first | (go_at_call 27; (with_reducible refine (pebble_Best_1.calls kj56 x16_5 ji56 a1 t124 true _ B ?hbx_ A63.out).mono ?_); (case hbx_ => exact hbx); rintro e w' ⟨rfl, ⟨nd, rfl⟩⟩; (try first | exact ⟨rfl, _, World.drewN_drewN _ _ _⟩ | exact ⟨rfl, _, Eq.trans (World.drewN_drewN _ _ _) (congrArg (World.drewN _) (Nat.add_assoc _ _ _))⟩); have p126 : 0 ≤ (t124 : Int) := of_decide_eq_true (by first | (with_reducible assumption) | assumption); have q126 : t124 < (x7_3.length : Int) := of_decide_eq_true (by first | (with_reducible assumption) | assumption); obtain ⟨ad126, e126, hx126_0⟩ := Kd.at_int (Kd.R_reads' HO_7.out).2.2 t124 p126 q126; obtain rfl : (⟨go25, 0, none⟩ : Addr) = ad126 := (by injection e126); (first | simp only [add_plain] at hx126_0 | simp only [add_at] at hx126_0 | simp only [Addr.add, Nat.zero_add] at hx126_0 | skip); replace p126 := eq_true p126; replace q126 := eq_true q126; have p127 : 0 ≤ (x16_5 : Int) := of_decide_eq_true (by first | (with_reducible assumption) | assumption); have q127 : x16_5 < (x7_3.length : Int) := of_decide_eq_true (by first | (with_reducible assumption) | assumption); obtain ⟨ad127, e127, hx127_0⟩ := Kd.at_int (Kd.R_reads' HO_7.out).2.2 x16_5 p127 q127; obtain rfl : (⟨go25, 0, none⟩ : Addr) = ad127 := (by injection e127); (first | simp only [add_plain] at hx127_0 | simp only [add_at] at hx127_0 | simp only [Addr.add, Nat.zero_add] at hx127_0 | skip); replace p127 := eq_true p127; replace q127 := eq_true q127) | ((with_reducible refine gate_builtin (b := .append) (xs := #[.tmp 147, .tmp 149]) rfl ?_); at_builtin; refine Kd.R_append (Kd.int .i64) (w0 := w) w.heap.size rfl (.tmp 147) (.tmp 149) 23 3 (.int .i64 0) 8 rfl Try.underlying23 info3 rfl (by decide) (by omega) u15 x15_5 x17_5 [.int .i64 x17_5] (fun k_ => some k_ ≠ (.slice (some ⟨go25, 0, none⟩) x7_3.length co16 : Value).ownBlock) (fun _ => False) rfl rfl ?aP (fun _ hk => hk.elim) ?aF ?aO ?aB ?aS ?aL ?_; (case aP => exact rfl); (case aB => exact (by repeat (first | (with_reducible first | exact HB.out | apply below_alloc | apply pw_below_drewN | apply below_drew1) | exact HB.out))); (case aF => exact (fun k_ hk => Kd.fresh' (Kd.R_lt (by (with_reducible repeat (first | apply Kd.R_alloc | apply Kd.R_drewN | apply Kd.R_drew)); exact HO_7.out)) k_ hk)); (case aO => exact (by (with_reducible repeat (first | apply Kd.R_alloc | apply Kd.R_drewN | apply Kd.R_drew)); exact HO_15.out)); (case aS => exact (below_size (by repeat (first | (with_reducible first | exact HB.out | apply below_alloc | apply pw_below_drewN | apply below_drew1) | exact HB.out)))); (case aL => have := LMc70.out; omega); intro v129 w71 ho hb hg hat; rw [← Ny128.out] at ho; have n0_ := Aside0.mk (Kd.R_after (ok := (fun _ => True)) (by (with_reducible repeat (first | apply Kd.R_alloc | apply Kd.R_drewN | apply Kd.R_drew)); exact Kd.R_mono HO_7.out (fun _ hk => ⟨trivial, hk⟩)) hg hat); have n1_ := Aside0.mk (hb); have n2_ := Aside0.mk (ho); clear HO_7; clear HB; clear HO_15; have HO_7 := n0_; have HB := n1_; have HO130 := n2_; clear n0_ n1_ n2_; clear ho hb hg hat))
                                                                    repeat (go_quiet (first | (go_at_call 27; (with_reducible refine (pebble_Best_1.calls kj56 x16_5 ji56 a1 t124 true _ B ?hbx_ A63.out).mono ?_); (case hbx_ => exact hbx); rintro e w' ⟨rfl, ⟨nd, rfl⟩⟩; (try first | exact ⟨rfl, _, World.drewN_drewN _ _ _⟩ | exact ⟨rfl, _, Eq.trans (World.drewN_drewN _ _ _) (congrArg (World.drewN _) (Nat.add_assoc _ _ _))⟩); have p126 : 0 ≤ (t124 : Int) := of_decide_eq_true (by first | (with_reducible assumption) | assumption); have q126 : t124 < (x7_3.length : Int) := of_decide_eq_true (by first | (with_reducible assumption) | assumption); obtain ⟨ad126, e126, hx126_0⟩ := Kd.at_int (Kd.R_reads' HO_7.out).2.2 t124 p126 q126; obtain rfl : (⟨go25, 0, none⟩ : Addr) = ad126 := (by injection e126); (first | simp only [add_plain] at hx126_0 | simp only [add_at] at hx126_0 | simp only [Addr.add, Nat.zero_add] at hx126_0 | skip); replace p126 := eq_true p126; replace q126 := eq_true q126; have p127 : 0 ≤ (x16_5 : Int) := of_decide_eq_true (by first | (with_reducible assumption) | assumption); have q127 : x16_5 < (x7_3.length : Int) := of_decide_eq_true (by first | (with_reducible assumption) | assumption); obtain ⟨ad127, e127, hx127_0⟩ := Kd.at_int (Kd.R_reads' HO_7.out).2.2 x16_5 p127 q127; obtain rfl : (⟨go25, 0, none⟩ : Addr) = ad127 := (by injection e127); (first | simp only [add_plain] at hx127_0 | simp only [add_at] at hx127_0 | simp only [Addr.add, Nat.zero_add] at hx127_0 | skip); replace p127 := eq_true p127; replace q127 := eq_true q127) | ((with_reducible refine gate_builtin (b := .append) (xs := #[.tmp 147, .tmp 149]) rfl ?_); at_builtin; refine Kd.R_append (Kd.int .i64) (w0 := w) w.heap.size rfl (.tmp 147) (.tmp 149) 23 3 (.int .i64 0) 8 rfl Try.underlying23 info3 rfl (by decide) (by omega) u15 x15_5 x17_5 [.int .i64 x17_5] (fun k_ => some k_ ≠ (.slice (some ⟨go25, 0, none⟩) x7_3.length co16 : Value).ownBlock) (fun _ => False) rfl rfl ?aP (fun _ hk => hk.elim) ?aF ?aO ?aB ?aS ?aL ?_; (case aP => exact rfl); (case aB => exact (by repeat (first | (with_reducible first | exact HB.out | apply below_alloc | apply pw_below_drewN | apply below_drew1) | exact HB.out))); (case aF => exact (fun k_ hk => Kd.fresh' (Kd.R_lt (by (with_reducible repeat (first | apply Kd.R_alloc | apply Kd.R_drewN | apply Kd.R_drew)); exact HO_7.out)) k_ hk)); (case aO => exact (by (with_reducible repeat (first | apply Kd.R_alloc | apply Kd.R_drewN | apply Kd.R_drew)); exact HO_15.out)); (case aS => exact (below_size (by repeat (first | (with_reducible first | exact HB.out | apply below_alloc | apply pw_below_drewN | apply below_drew1) | exact HB.out)))); (case aL => have := LMc70.out; omega); intro v129 w71 ho hb hg hat; rw [← Ny128.out] at ho; have n0_ := Aside0.mk (Kd.R_after (ok := (fun _ => True)) (by (with_reducible repeat (first | apply Kd.R_alloc | apply Kd.R_drewN | apply Kd.R_drew)); exact Kd.R_mono HO_7.out (fun _ hk => ⟨trivial, hk⟩)) hg hat); have n1_ := Aside0.mk (hb); have n2_ := Aside0.mk (ho); clear HO_7; clear HB; clear HO_15; have HO_7 := n0_; have HB := n1_; have HO130 := n2_; clear n0_ n1_ n2_; clear ho hb hg hat)); try go_wp2_with (first | (go_at_call 27; (with_reducible refine (pebble_Best_1.calls kj56 x16_5 ji56 a1 t124 true _ B ?hbx_ A63.out).mono ?_); (case hbx_ => exact hbx); rintro e w' ⟨rfl, ⟨nd, rfl⟩⟩; (try first | exact ⟨rfl, _, World.drewN_drewN _ _ _⟩ | exact ⟨rfl, _, Eq.trans (World.drewN_drewN _ _ _) (congrArg (World.drewN _) (Nat.add_assoc _ _ _))⟩); have p126 : 0 ≤ (t124 : Int) := of_decide_eq_true (by first | (with_reducible assumption) | assumption); have q126 : t124 < (x7_3.length : Int) := of_decide_eq_true (by first | (with_reducible assumption) | assumption); obtain ⟨ad126, e126, hx126_0⟩ := Kd.at_int (Kd.R_reads' HO_7.out).2.2 t124 p126 q126; obtain rfl : (⟨go25, 0, none⟩ : Addr) = ad126 := (by injection e126); (first | simp only [add_plain] at hx126_0 | simp only [add_at] at hx126_0 | simp only [Addr.add, Nat.zero_add] at hx126_0 | skip); replace p126 := eq_true p126; replace q126 := eq_true q126; have p127 : 0 ≤ (x16_5 : Int) := of_decide_eq_true (by first | (with_reducible assumption) | assumption); have q127 : x16_5 < (x7_3.length : Int) := of_decide_eq_true (by first | (with_reducible assumption) | assumption); obtain ⟨ad127, e127, hx127_0⟩ := Kd.at_int (Kd.R_reads' HO_7.out).2.2 x16_5 p127 q127; obtain rfl : (⟨go25, 0, none⟩ : Addr) = ad127 := (by injection e127); (first | simp only [add_plain] at hx127_0 | simp only [add_at] at hx127_0 | simp only [Addr.add, Nat.zero_add] at hx127_0 | skip); replace p127 := eq_true p127; replace q127 := eq_true q127) | ((with_reducible refine gate_builtin (b := .append) (xs := #[.tmp 147, .tmp 149]) rfl ?_); at_builtin; refine Kd.R_append (Kd.int .i64) (w0 := w) w.heap.size rfl (.tmp 147) (.tmp 149) 23 3 (.int .i64 0) 8 rfl Try.underlying23 info3 rfl (by decide) (by omega) u15 x15_5 x17_5 [.int .i64 x17_5] (fun k_ => some k_ ≠ (.slice (some ⟨go25, 0, none⟩) x7_3.length co16 : Value).ownBlock) (fun _ => False) rfl rfl ?aP (fun _ hk => hk.elim) ?aF ?aO ?aB ?aS ?aL ?_; (case aP => exact rfl); (case aB => exact (by repeat (first | (with_reducible first | exact HB.out | apply below_alloc | apply pw_below_drewN | apply below_drew1) | exact HB.out))); (case aF => exact (fun k_ hk => Kd.fresh' (Kd.R_lt (by (with_reducible repeat (first | apply Kd.R_alloc | apply Kd.R_drewN | apply Kd.R_drew)); exact HO_7.out)) k_ hk)); (case aO => exact (by (with_reducible repeat (first | apply Kd.R_alloc | apply Kd.R_drewN | apply Kd.R_drew)); exact HO_15.out)); (case aS => exact (below_size (by repeat (first | (with_reducible first | exact HB.out | apply below_alloc | apply pw_below_drewN | apply below_drew1) | exact HB.out)))); (case aL => have := LMc70.out; omega); intro v129 w71 ho hb hg hat; rw [← Ny128.out] at ho; have n0_ := Aside0.mk (Kd.R_after (ok := (fun _ => True)) (by (with_reducible repeat (first | apply Kd.R_alloc | apply Kd.R_drewN | apply Kd.R_drew)); exact Kd.R_mono HO_7.out (fun _ hk => ⟨trivial, hk⟩)) hg hat); have n1_ := Aside0.mk (hb); have n2_ := Aside0.mk (ho); clear HO_7; clear HB; clear HO_15; have HO_7 := n0_; have HB := n1_; have HO130 := n2_; clear n0_ n1_ n2_; clear ho hb hg hat)))
                                                                    go_roundg kj56
                                                                    case measure => have := HJ2.out; have := HK2.out; have := HK3.out; have := HK4.out; have := HK5.out; have := HJ56.out; omega
                                                                    case rel => exact ⟨(y128), (t124), (by first | rfl | (simp; done) | (simp [*]; done)), H', ⟨by have := HJ2.out; have := HK2.out; have := HK3.out; have := HK4.out; have := HK5.out; have := HJ56.out; omega⟩, ⟨by (try simp only [hl7_2]); (try simp only [hl7_3]); (with_reducible repeat (first | apply Kd.R_alloc | apply Kd.R_drewN | apply Kd.R_drew)); exact Kd.R_mono HO_7.out (fun _ hk => hk.2)⟩, ⟨by (try simp only [hl7_2]); (try simp only [hl7_3]); (with_reducible repeat (first | apply Kd.R_alloc | apply Kd.R_drewN | apply Kd.R_drew)); exact HO130.out⟩, ⟨by repeat (first | (with_reducible first | exact HB.out | apply below_alloc | apply pw_below_drewN | apply below_drew1) | exact HB.out)⟩⟩
                                                                  · rw [if_neg c70] at H
                                                                    exact absurd H (by simp)
                                                                · rw [if_neg c69] at H
                                                                  have c69b0 : ((rd x7_3 t124) == (wrap64 ((rd x7_3 x16_5) - 1))) = false := beq_eq_false_iff_ne.mpr c69
                                                                  have c69b1 : ((rd x7_3 t124) != (wrap64 ((rd x7_3 x16_5) - 1))) = true := bne_iff_ne.mpr c69
                                                                  have H' := Aside0.mk H
                                                                  clear H
                                                                  go_wp2_with (first | (go_at_call 27; (with_reducible refine (pebble_Best_1.calls kj56 x16_5 ji56 a1 t124 true _ B ?hbx_ A63.out).mono ?_); (case hbx_ => exact hbx); rintro e w' ⟨rfl, ⟨nd, rfl⟩⟩; (try first | exact ⟨rfl, _, World.drewN_drewN _ _ _⟩ | exact ⟨rfl, _, Eq.trans (World.drewN_drewN _ _ _) (congrArg (World.drewN _) (Nat.add_assoc _ _ _))⟩); have p126 : 0 ≤ (t124 : Int) := of_decide_eq_true (by first | (with_reducible assumption) | assumption); have q126 : t124 < (x7_3.length : Int) := of_decide_eq_true (by first | (with_reducible assumption) | assumption); obtain ⟨ad126, e126, hx126_0⟩ := Kd.at_int (Kd.R_reads' HO_7.out).2.2 t124 p126 q126; obtain rfl : (⟨go25, 0, none⟩ : Addr) = ad126 := (by injection e126); (first | simp only [add_plain] at hx126_0 | simp only [add_at] at hx126_0 | simp only [Addr.add, Nat.zero_add] at hx126_0 | skip); replace p126 := eq_true p126; replace q126 := eq_true q126; have p127 : 0 ≤ (x16_5 : Int) := of_decide_eq_true (by first | (with_reducible assumption) | assumption); have q127 : x16_5 < (x7_3.length : Int) := of_decide_eq_true (by first | (with_reducible assumption) | assumption); obtain ⟨ad127, e127, hx127_0⟩ := Kd.at_int (Kd.R_reads' HO_7.out).2.2 x16_5 p127 q127; obtain rfl : (⟨go25, 0, none⟩ : Addr) = ad127 := (by injection e127); (first | simp only [add_plain] at hx127_0 | simp only [add_at] at hx127_0 | simp only [Addr.add, Nat.zero_add] at hx127_0 | skip); replace p127 := eq_true p127; replace q127 := eq_true q127))
                                                                  repeat (go_quiet (first | (go_at_call 27; (with_reducible refine (pebble_Best_1.calls kj56 x16_5 ji56 a1 t124 true _ B ?hbx_ A63.out).mono ?_); (case hbx_ => exact hbx); rintro e w' ⟨rfl, ⟨nd, rfl⟩⟩; (try first | exact ⟨rfl, _, World.drewN_drewN _ _ _⟩ | exact ⟨rfl, _, Eq.trans (World.drewN_drewN _ _ _) (congrArg (World.drewN _) (Nat.add_assoc _ _ _))⟩); have p126 : 0 ≤ (t124 : Int) := of_decide_eq_true (by first | (with_reducible assumption) | assumption); have q126 : t124 < (x7_3.length : Int) := of_decide_eq_true (by first | (with_reducible assumption) | assumption); obtain ⟨ad126, e126, hx126_0⟩ := Kd.at_int (Kd.R_reads' HO_7.out).2.2 t124 p126 q126; obtain rfl : (⟨go25, 0, none⟩ : Addr) = ad126 := (by injection e126); (first | simp only [add_plain] at hx126_0 | simp only [add_at] at hx126_0 | simp only [Addr.add, Nat.zero_add] at hx126_0 | skip); replace p126 := eq_true p126; replace q126 := eq_true q126; have p127 : 0 ≤ (x16_5 : Int) := of_decide_eq_true (by first | (with_reducible assumption) | assumption); have q127 : x16_5 < (x7_3.length : Int) := of_decide_eq_true (by first | (with_reducible assumption) | assumption); obtain ⟨ad127, e127, hx127_0⟩ := Kd.at_int (Kd.R_reads' HO_7.out).2.2 x16_5 p127 q127; obtain rfl : (⟨go25, 0, none⟩ : Addr) = ad127 := (by injection e127); (first | simp only [add_plain] at hx127_0 | simp only [add_at] at hx127_0 | simp only [Addr.add, Nat.zero_add] at hx127_0 | skip); replace p127 := eq_true p127; replace q127 := eq_true q127)); try go_wp2_with (first | (go_at_call 27; (with_reducible refine (pebble_Best_1.calls kj56 x16_5 ji56 a1 t124 true _ B ?hbx_ A63.out).mono ?_); (case hbx_ => exact hbx); rintro e w' ⟨rfl, ⟨nd, rfl⟩⟩; (try first | exact ⟨rfl, _, World.drewN_drewN _ _ _⟩ | exact ⟨rfl, _, Eq.trans (World.drewN_drewN _ _ _) (congrArg (World.drewN _) (Nat.add_assoc _ _ _))⟩); have p126 : 0 ≤ (t124 : Int) := of_decide_eq_true (by first | (with_reducible assumption) | assumption); have q126 : t124 < (x7_3.length : Int) := of_decide_eq_true (by first | (with_reducible assumption) | assumption); obtain ⟨ad126, e126, hx126_0⟩ := Kd.at_int (Kd.R_reads' HO_7.out).2.2 t124 p126 q126; obtain rfl : (⟨go25, 0, none⟩ : Addr) = ad126 := (by injection e126); (first | simp only [add_plain] at hx126_0 | simp only [add_at] at hx126_0 | simp only [Addr.add, Nat.zero_add] at hx126_0 | skip); replace p126 := eq_true p126; replace q126 := eq_true q126; have p127 : 0 ≤ (x16_5 : Int) := of_decide_eq_true (by first | (with_reducible assumption) | assumption); have q127 : x16_5 < (x7_3.length : Int) := of_decide_eq_true (by first | (with_reducible assumption) | assumption); obtain ⟨ad127, e127, hx127_0⟩ := Kd.at_int (Kd.R_reads' HO_7.out).2.2 x16_5 p127 q127; obtain rfl : (⟨go25, 0, none⟩ : Addr) = ad127 := (by injection e127); (first | simp only [add_plain] at hx127_0 | simp only [add_at] at hx127_0 | simp only [Addr.add, Nat.zero_add] at hx127_0 | skip); replace p127 := eq_true p127; replace q127 := eq_true q127)))
                                                                  go_roundg kj56
                                                                  case measure => have := HJ2.out; have := HK2.out; have := HK3.out; have := HK4.out; have := HK5.out; have := HJ56.out; omega
                                                                  case rel => exact ⟨(x15_5), (x16_5), (wrap64 (x17_5 + 1)), (by first | rfl | (simp; done) | (simp [*]; done)), (by first | rfl | (simp; done) | (simp [*]; done)), H', ⟨by have := HJ2.out; have := HK2.out; have := HK3.out; have := HK4.out; have := HK5.out; have := HJ56.out; omega⟩, ⟨by (try simp only [hl7_2]); (try simp only [hl7_3]); (with_reducible repeat (first | apply Kd.R_alloc | apply Kd.R_drewN | apply Kd.R_drew)); exact HO_7.out⟩, ⟨by (try simp only [hl7_2]); (try simp only [hl7_3]); (with_reducible repeat (first | apply Kd.R_alloc | apply Kd.R_drewN | apply Kd.R_drew)); exact HO_15.out⟩, ⟨by repeat (first | (with_reducible first | exact HB.out | apply below_alloc | apply pw_below_drewN | apply below_drew1) | exact HB.out)⟩⟩
                                                              · rw [if_neg c68] at H
                                                                exact absurd H (by simp)
                                                            · rw [if_neg c67] at H
                                                              exact absurd H (by simp)
                                                          · rw [if_neg c66] at H
                                                            exact absurd H (by simp)
                                                        · rw [if_neg c65] at H
                                                          exact absurd H (by simp)
                                                      · replace c64 := Bool.eq_false_iff.mpr c64
                                                        subst c64
                                                        have H1 : (pebble_Best.l4 kj56 a0 a1 ji9 x7_3 x15_5 x16_5 (wrap64 (x17_5 + 1))) = some (r1, r2) := by rw [if_neg (show ¬ (false = true) by decide)] at H; exact H
                                                        clear H
                                                        have H := H1
                                                        clear H1
                                                        have H' := Aside0.mk H
                                                        clear H
                                                        go_wp2_with (first | (go_at_call 27; (with_reducible refine (pebble_Best_1.calls kj56 x16_5 ji56 a1 t124 false _ B ?hbx_ A63.out).mono ?_); (case hbx_ => exact hbx); rintro e w' ⟨rfl, ⟨nd, rfl⟩⟩; (try first | exact ⟨rfl, _, World.drewN_drewN _ _ _⟩ | exact ⟨rfl, _, Eq.trans (World.drewN_drewN _ _ _) (congrArg (World.drewN _) (Nat.add_assoc _ _ _))⟩)))
                                                        repeat (go_quiet (first | (go_at_call 27; (with_reducible refine (pebble_Best_1.calls kj56 x16_5 ji56 a1 t124 false _ B ?hbx_ A63.out).mono ?_); (case hbx_ => exact hbx); rintro e w' ⟨rfl, ⟨nd, rfl⟩⟩; (try first | exact ⟨rfl, _, World.drewN_drewN _ _ _⟩ | exact ⟨rfl, _, Eq.trans (World.drewN_drewN _ _ _) (congrArg (World.drewN _) (Nat.add_assoc _ _ _))⟩))); try go_wp2_with (first | (go_at_call 27; (with_reducible refine (pebble_Best_1.calls kj56 x16_5 ji56 a1 t124 false _ B ?hbx_ A63.out).mono ?_); (case hbx_ => exact hbx); rintro e w' ⟨rfl, ⟨nd, rfl⟩⟩; (try first | exact ⟨rfl, _, World.drewN_drewN _ _ _⟩ | exact ⟨rfl, _, Eq.trans (World.drewN_drewN _ _ _) (congrArg (World.drewN _) (Nat.add_assoc _ _ _))⟩))))
                                                        go_roundg kj56
                                                        case measure => have := HJ2.out; have := HK2.out; have := HK3.out; have := HK4.out; have := HK5.out; have := HJ56.out; omega
                                                        case rel => exact ⟨(x15_5), (x16_5), (wrap64 (x17_5 + 1)), (by first | rfl | (simp; done) | (simp [*]; done)), (by first | rfl | (simp; done) | (simp [*]; done)), H', ⟨by have := HJ2.out; have := HK2.out; have := HK3.out; have := HK4.out; have := HK5.out; have := HJ56.out; omega⟩, ⟨by (try simp only [hl7_2]); (try simp only [hl7_3]); (with_reducible repeat (first | apply Kd.R_alloc | apply Kd.R_drewN | apply Kd.R_drew)); exact HO_7.out⟩, ⟨by (try simp only [hl7_2]); (try simp only [hl7_3]); (with_reducible repeat (first | apply Kd.R_alloc | apply Kd.R_drewN | apply Kd.R_drew)); exact HO_15.out⟩, ⟨by repeat (first | (with_reducible first | exact HB.out | apply below_alloc | apply pw_below_drewN | apply below_drew1) | exact HB.out)⟩⟩
                                              · rw [if_neg c55] at H
                                                have c55b0 : decide (x17_5 ≤ a0) = false := decide_eq_false c55
                                                clear c55
                                                have H' := Aside0.mk H
                                                clear H
                                                go_wp2
                                                repeat (go_quiet (fail); try go_wp2)
                                                go_roundg k5
                                                case measure => have := HJ2.out; have := HK2.out; have := HK3.out; have := HK4.out; have := HK5.out; omega
                                                case rel => exact ⟨(x15_5), (x16_5), (by first | rfl | (simp; done) | (simp [*]; done)), H', ⟨by have := HJ2.out; have := HK2.out; have := HK3.out; have := HK4.out; have := HK5.out; omega⟩, ⟨by (try simp only [hl7_2]); (try simp only [hl7_3]); (with_reducible repeat (first | apply Kd.R_alloc | apply Kd.R_drewN | apply Kd.R_drew)); exact HO_7.out⟩, ⟨by (try simp only [hl7_2]); (try simp only [hl7_3]); (with_reducible repeat (first | apply Kd.R_alloc | apply Kd.R_drewN | apply Kd.R_drew)); exact HO_15.out⟩, ⟨by repeat (first | (with_reducible first | exact HB.out | apply below_alloc | apply pw_below_drewN | apply below_drew1) | exact HB.out)⟩⟩
                                · rw [if_neg c50] at H
                                  exact absurd H (by simp)
                        · rw [if_neg c24] at H
                          exact absurd H (by simp)
                      · rw [if_neg c23] at H
                        exact absurd H (by simp)
              · rw [if_neg c13] at H
                exact absurd H (by simp)
            · rw [if_neg c12] at H
              exact absurd H (by simp)
          · rw [if_neg c10] at H
            exact absurd H (by simp)
        · rw [if_neg c8] at H
          exact absurd H (by simp)


theorem pebble_Best.calls (k : Nat) (a0 : Int) (a1 : Int) (r1 : List Int) (r2 : Bool) (w : World) (h : pebble_Best.f k a0 a1 = some (r1, r2)) :
    Calls Try.prog 15 #[.int .i64 a0, .int .i64 a1] w fun e w' => ∃ v0_ : Value, e = .returned (.tuple #[v0_, .bool r2]) ∧ Kd.R (Kd.int .i64) 3 w' w.heap.size (fun _ => True) v0_ r1 ∧ Below w.heap.size w w' := by
  refine (pebble_Best.core k a0 a1 r1 r2 w _ rfl h).mono ?_
  rintro e w' ⟨v, rfl, hr, hb⟩
  exact ⟨v, rfl, Kd.R_lower hr (by simp), ((Below.refl _ w).alloc (Nat.le_refl _) _).trans (hb.mono (by simp))⟩

end Go.Proofs.Ytpkamififbhheaa.PAll
