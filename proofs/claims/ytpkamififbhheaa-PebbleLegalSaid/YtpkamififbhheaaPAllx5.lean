-- LAID BY A PROGRAM (wip/tprint.py) out of the translation. Nothing here is trusted.
import Derived.Test.YtpkamififbhheaaPAllx0
namespace Go.Proofs.Ytpkamififbhheaa.PAll
open Go.RowKit Go.Proofs.YtpkamififbhheaaW.PrintWords Go.Proofs.YtpkamififbhheaaW.PrintLast Go.Proofs.YtpkamififbhheaaW.PrintMore
attribute [local go_sem] max2_int min2_int max_two min_two max_three min_three max_four min_four   -- for this text's walks alone
set_option linter.unusedVariables false
set_option linter.unusedSimpArgs false

/-! ### backstepref44_Legal: function 19 -/
mutual
def backstepref44_Legal.l0 : Nat → Int → List Int → List Bool → Int → Option (Int × Bool)
  | 0, _, _, _, _ => none
  | k + 1, x0, x1, x6, x7 => if x7 < (x1.length : Int) then (if 0 ≤ x7 then (if ((rd x1 x7) > 0) then (if (rd x1 x7) < 1 then (some (x7, false)) else (if (rd x1 x7) > x0 then (some (x7, false)) else (if 0 ≤ (rd x1 x7) then (if (rd x1 x7) < (x6.length : Int) then (if ((rdOf false x6 (rd x1 x7)) == (decide ((rd x1 x7) > 0))) = true then (some (x7, false)) else (if (rd x1 x7) > 1 then (if 0 ≤ (wrap64 ((rd x1 x7) - 1)) then (if (wrap64 ((rd x1 x7) - 1)) < (x6.length : Int) then (if (rdOf false x6 (wrap64 ((rd x1 x7) - 1)) = true) then (backstepref44_Legal.l0 k x0 x1 (x6.set ((rd x1 x7) : Int).toNat (decide ((rd x1 x7) > 0))) (wrap64 (x7 + 1))) else (some (x7, false))) else (none)) else (none)) else (backstepref44_Legal.l0 k x0 x1 (x6.set ((rd x1 x7) : Int).toNat (decide ((rd x1 x7) > 0))) (wrap64 (x7 + 1))))) else (none)) else (none)))) else (if (wrap64 (-(rd x1 x7))) < 1 then (some (x7, false)) else (if (wrap64 (-(rd x1 x7))) > x0 then (some (x7, false)) else (if 0 ≤ (wrap64 (-(rd x1 x7))) then (if (wrap64 (-(rd x1 x7))) < (x6.length : Int) then (if ((rdOf false x6 (wrap64 (-(rd x1 x7)))) == (decide ((rd x1 x7) > 0))) = true then (some (x7, false)) else (if (wrap64 (-(rd x1 x7))) > 1 then (if 0 ≤ (wrap64 ((wrap64 (-(rd x1 x7))) - 1)) then (if (wrap64 ((wrap64 (-(rd x1 x7))) - 1)) < (x6.length : Int) then (if (rdOf false x6 (wrap64 ((wrap64 (-(rd x1 x7))) - 1)) = true) then (backstepref44_Legal.l0 k x0 x1 (x6.set ((wrap64 (-(rd x1 x7))) : Int).toNat (decide ((rd x1 x7) > 0))) (wrap64 (x7 + 1))) else (some (x7, false))) else (none)) else (none)) else (backstepref44_Legal.l0 k x0 x1 (x6.set ((wrap64 (-(rd x1 x7))) : Int).toNat (decide ((rd x1 x7) > 0))) (wrap64 (x7 + 1))))) else (none)) else (none))))) else (none)) else (backstepref44_Legal.l1 k x0 x1 x6 1)
def backstepref44_Legal.l1 : Nat → Int → List Int → List Bool → Int → Option (Int × Bool)
  | 0, _, _, _, _ => none
  | k + 1, x0, x1, x6, x10 => if x10 < x0 then (if 0 ≤ x10 then (if x10 < (x6.length : Int) then (if rdOf false x6 x10 = true then (some ((x1.length : Int), false)) else (backstepref44_Legal.l1 k x0 x1 x6 (wrap64 (x10 + 1)))) else (none)) else (none)) else (if 0 ≤ x0 then (if x0 < (x6.length : Int) then (some ((x1.length : Int), rdOf false x6 x0)) else (none)) else (none))
end
def backstepref44_Legal.f (k : Nat) (a0 : Int) (l1 : List Int) : Option (Int × Bool) := if a0 < 1 then (some (0, false)) else (if 0 ≤ (wrap64 (a0 + 1)) then (if (wrap64 (a0 + 1) : Int).toNat ≤ 281474976710656 then (backstepref44_Legal.l0 k a0 l1 (List.replicate (wrap64 (a0 + 1) : Int).toNat false) 0) else (none)) else (none))
theorem backstepref44_Legal.mono_l : ∀ k, (∀ y0 y1 y2 y3, LeO (backstepref44_Legal.l0 k y0 y1 y2 y3) (backstepref44_Legal.l0 (k + 1) y0 y1 y2 y3)) ∧ (∀ y0 y1 y2 y3, LeO (backstepref44_Legal.l1 k y0 y1 y2 y3) (backstepref44_Legal.l1 (k + 1) y0 y1 y2 y3))
  | 0 => ⟨fun _ _ _ _ r h => by simp [backstepref44_Legal.l0] at h, fun _ _ _ _ r h => by simp [backstepref44_Legal.l1] at h⟩
  | k + 1 => by
    obtain ⟨ih0, ih1⟩ := backstepref44_Legal.mono_l k
    refine ⟨?_, ?_⟩
    · intro y0 y1 y2 y3
      unfold backstepref44_Legal.l0
      repeat' first
      | (with_reducible exact ih0 _ _ _ _)
      | (with_reducible exact ih1 _ _ _ _)
      | (with_reducible exact LeO.refl _)
      | (with_reducible exact LeO.none _)
      | (with_reducible refine LeO.ite ?_ ?_)
      | (with_reducible refine LeO.bind ?_ (fun _ => ?_))
      | exact ih0 _ _ _ _
      | exact ih1 _ _ _ _
      | exact LeO.none _
      | refine LeO.ite ?_ ?_
      | refine LeO.bind ?_ (fun _ => ?_)
    · intro y0 y1 y2 y3
      unfold backstepref44_Legal.l1
      repeat' first
      | (with_reducible exact ih0 _ _ _ _)
      | (with_reducible exact ih1 _ _ _ _)
      | (with_reducible exact LeO.refl _)
      | (with_reducible exact LeO.none _)
      | (with_reducible refine LeO.ite ?_ ?_)
      | (with_reducible refine LeO.bind ?_ (fun _ => ?_))
      | exact ih0 _ _ _ _
      | exact ih1 _ _ _ _
      | exact LeO.none _
      | refine LeO.ite ?_ ?_
      | refine LeO.bind ?_ (fun _ => ?_)
theorem backstepref44_Legal.mono : ∀ a0 a1 k, LeO (backstepref44_Legal.f k a0 a1) (backstepref44_Legal.f (k + 1) a0 a1) := by
  intro a0 a1 k
  obtain ⟨ih0, ih1⟩ := backstepref44_Legal.mono_l k
  unfold backstepref44_Legal.f
  repeat' first
      | (with_reducible exact ih0 _ _ _ _)
      | (with_reducible exact ih1 _ _ _ _)
      | (with_reducible exact LeO.refl _)
      | (with_reducible exact LeO.none _)
      | (with_reducible refine LeO.ite ?_ ?_)
      | (with_reducible refine LeO.bind ?_ (fun _ => ?_))
      | exact ih0 _ _ _ _
      | exact ih1 _ _ _ _
      | exact LeO.none _
      | refine LeO.ite ?_ ?_
      | refine LeO.bind ?_ (fun _ => ?_)
set_option maxHeartbeats 8000000 in
set_option maxRecDepth 100000 in
theorem backstepref44_Legal.calls (k : Nat) (a0 : Int) (A1 : Option Addr) (c1 : Nat) (l1 : List Int) (r1 : Int) (r2 : Bool) (w : World) (hr1 : Kd.C (Kd.int .i64) w A1 l1.length l1) (hc1 : l1.length ≤ c1) (h : backstepref44_Legal.f k a0 l1 = some (r1, r2)) :
    Calls Try.prog 19 #[.int .i64 a0, .slice A1 l1.length c1] w fun e w' => e = .returned (.tuple #[.int .i64 r1, .bool r2]) ∧ Below w.heap.size w w' := by
  have HR1 := Aside0.mk hr1
  have HC1 := Aside0.mk hc1
  clear hr1 hc1
  have HB := Aside0.mk (Below.refl w.heap.size w)
  have H : (if a0 < 1 then (some (0, false)) else (if 0 ≤ (wrap64 (a0 + 1)) then (if (wrap64 (a0 + 1) : Int).toNat ≤ 281474976710656 then (backstepref44_Legal.l0 k a0 l1 (List.replicate (wrap64 (a0 + 1) : Int).toNat false) 0) else (none)) else (none))) = some (r1, r2) := h
  clear h
  by_cases c3 : a0 < 1
  · rw [if_pos c3] at H
    have c3b0 : decide (a0 < 1) = true := decide_eq_true c3
    clear c3
    simp only [Option.some.injEq, Prod.mk.injEq] at H
    obtain ⟨rfl, rfl⟩ := H
    go_enter Try.func19, Try.ntmps19
    go_wp2
    repeat (go_quiet (fail); try go_wp2)
    go_ret2
    exact ⟨by first | rfl | (simp [errW_none, errW_some] <;> rfl) | (simp [*, errW_none, errW_some] <;> rfl), by repeat (first | (with_reducible first | exact HB.out | apply below_alloc | apply pw_below_drewN | apply below_drew1) | exact HB.out)⟩
  · rw [if_neg c3] at H
    have c3b0 : decide (a0 < 1) = false := decide_eq_false c3
    clear c3
    obtain ⟨ji4, hji4⟩ : ∃ j_ : Int, (wrap64 (a0 + 1)) = j_ := ⟨_, rfl⟩
    replace H : (if 0 ≤ (ji4) then (if (ji4 : Int).toNat ≤ 281474976710656 then (backstepref44_Legal.l0 k a0 l1 (List.replicate (ji4 : Int).toNat false) 0) else (none)) else (none)) = some (r1, r2) := by first | (rw [hji4] at H; exact H) | (simp only [hji4] at H ⊢; exact H)
    have hji4w : (IntKind.i64.wrap (a0 + 1)) = ji4 := (i64_w _).trans hji4
    by_cases c5 : 0 ≤ (ji4)
    · rw [if_pos c5] at H
      have c5b0 := eq_true c5
      have c5b1 : decide (0 ≤ (ji4)) = true := decide_eq_true c5
      clear c5
      by_cases c6 : (ji4 : Int).toNat ≤ 281474976710656
      · rw [if_pos c6] at H
        have c6b0 := eq_true c6
        have c6b1 : decide ((ji4 : Int).toNat ≤ 281474976710656) = true := decide_eq_true c6
        clear c6
        obtain ⟨y181, hy181⟩ : ∃ y_ : List Bool, y_ = (List.replicate (ji4 : Int).toNat false) := ⟨_, rfl⟩
        replace H : (backstepref44_Legal.l0 k a0 l1 y181 0) = some (r1, r2) := by first | (rw [hy181]; with_reducible exact H) | (have H2_ := (Option.bind_some _ _).symm.trans H; rw [hy181]; with_reducible exact H2_) | (have H2_ := (Option.bind_some _ _).symm.trans H; with_reducible exact H2_) | with_reducible exact H | (rw [hy181]; exact H) | exact H
        have Ny181 := Aside0.mk hy181
        clear hy181
        have H' := Aside0.mk H
        clear H
        go_enter Try.func19, Try.ntmps19
        go_wp2_with (first | ((with_reducible refine gate_dst (N := 15) rfl ?_); refine Kd.R_make Kd.bool _ 4 rfl (N := 15) rfl 55 _ _ rfl ji4 rfl rfl Try.underlying55 (.bool false) 1 info4 rfl (by decide) (by omega) false (ok := fun _ => True) (okp := fun _ => True) rfl (fun _ hk => hk) trivial (of_decide_eq_true (by first | (with_reducible assumption) | assumption)) (Nat.le_trans (Nat.mul_le_mul_right _ (of_decide_eq_true (by first | (with_reducible assumption) | assumption) : ji4.toNat ≤ 281474976710656)) (by omega)) (Below.refl _ _) (Nat.le_refl _) ?_; intro v182 w7 ho8 hb hg_ hnew_; clear hg_ hnew_; (first | rw [← Ny181.out] at ho8 | (simp only [Int.reduceToNat] at ho8; rw [← Ny181.out] at ho8)); have n0_ := Aside0.mk (Kd.R_lower ho8 (below_size (by repeat (first | (with_reducible first | exact HB.out | apply below_alloc | apply pw_below_drewN | apply below_drew1) | exact HB.out)))); have n1_ := Aside0.mk (below_step (by repeat (first | (with_reducible first | exact HB.out | apply below_alloc | apply pw_below_drewN | apply below_drew1) | exact HB.out)) hb); clear HB; have HO183 := n0_; have HB := n1_; clear n0_ n1_; clear hb ho8))
        repeat (go_quiet (first | ((with_reducible refine gate_dst (N := 15) rfl ?_); refine Kd.R_make Kd.bool _ 4 rfl (N := 15) rfl 55 _ _ rfl ji4 rfl rfl Try.underlying55 (.bool false) 1 info4 rfl (by decide) (by omega) false (ok := fun _ => True) (okp := fun _ => True) rfl (fun _ hk => hk) trivial (of_decide_eq_true (by first | (with_reducible assumption) | assumption)) (Nat.le_trans (Nat.mul_le_mul_right _ (of_decide_eq_true (by first | (with_reducible assumption) | assumption) : ji4.toNat ≤ 281474976710656)) (by omega)) (Below.refl _ _) (Nat.le_refl _) ?_; intro v182 w7 ho8 hb hg_ hnew_; clear hg_ hnew_; (first | rw [← Ny181.out] at ho8 | (simp only [Int.reduceToNat] at ho8; rw [← Ny181.out] at ho8)); have n0_ := Aside0.mk (Kd.R_lower ho8 (below_size (by repeat (first | (with_reducible first | exact HB.out | apply below_alloc | apply pw_below_drewN | apply below_drew1) | exact HB.out)))); have n1_ := Aside0.mk (below_step (by repeat (first | (with_reducible first | exact HB.out | apply below_alloc | apply pw_below_drewN | apply below_drew1) | exact HB.out)) hb); clear HB; have HO183 := n0_; have HB := n1_; clear n0_ n1_; clear hb ho8)); try go_wp2_with (first | ((with_reducible refine gate_dst (N := 15) rfl ?_); refine Kd.R_make Kd.bool _ 4 rfl (N := 15) rfl 55 _ _ rfl ji4 rfl rfl Try.underlying55 (.bool false) 1 info4 rfl (by decide) (by omega) false (ok := fun _ => True) (okp := fun _ => True) rfl (fun _ hk => hk) trivial (of_decide_eq_true (by first | (with_reducible assumption) | assumption)) (Nat.le_trans (Nat.mul_le_mul_right _ (of_decide_eq_true (by first | (with_reducible assumption) | assumption) : ji4.toNat ≤ 281474976710656)) (by omega)) (Below.refl _ _) (Nat.le_refl _) ?_; intro v182 w7 ho8 hb hg_ hnew_; clear hg_ hnew_; (first | rw [← Ny181.out] at ho8 | (simp only [Int.reduceToNat] at ho8; rw [← Ny181.out] at ho8)); have n0_ := Aside0.mk (Kd.R_lower ho8 (below_size (by repeat (first | (with_reducible first | exact HB.out | apply below_alloc | apply pw_below_drewN | apply below_drew1) | exact HB.out)))); have n1_ := Aside0.mk (below_step (by repeat (first | (with_reducible first | exact HB.out | apply below_alloc | apply pw_below_drewN | apply below_drew1) | exact HB.out)) hb); clear HB; have HO183 := n0_; have HB := n1_; clear n0_ n1_; clear hb ho8)))
        go_loopg [7] k (fun kq v7 w' => ∃ (x6_1 : List Bool) (x7_1 : Int), v7 = .int .i64 x7_1 ∧ Aside0 (backstepref44_Legal.l0 kq a0 l1 x6_1 x7_1 = some (r1, r2)) ∧ Aside0 (kq ≤ k) ∧ Aside0 (Kd.R Kd.bool 4 w' w.heap.size (fun _ => True) v182 x6_1) ∧ Aside0 (Below w.heap.size w w'))
        case atStart => exact ⟨(y181), (0), (by first | rfl | (simp; done) | (simp [*]; done)), H', ⟨Nat.le_refl _⟩, ⟨by (with_reducible repeat (first | apply Kd.R_alloc | apply Kd.R_drewN | apply Kd.R_drew)); exact HO183.out⟩, ⟨by repeat (first | (with_reducible first | exact HB.out | apply below_alloc | apply pw_below_drewN | apply below_drew1) | exact HB.out)⟩⟩
        case round =>
          clear H'
          try clear c1
          try clear p2
          try clear c3
          try clear c3b0
          try clear c5
          try clear c5b0
          try clear c5b1
          try clear c6
          try clear c6b0
          try clear c6b1
          try clear p6
          obtain ⟨x6_1, x7_1, rfl, HA, HK1, HO_6, HB⟩ := hrel
          cases gk with
          | zero => exact absurd HA.out (by simp [backstepref44_Legal.l0])
          | succ k1 =>
            have H := HA.out
            clear HA
            simp only [backstepref44_Legal.l0] at H
            by_cases c9 : x7_1 < (l1.length : Int)
            · rw [if_pos c9] at H
              have c9b0 : decide (x7_1 < (l1.length : Int)) = true := decide_eq_true c9
              clear c9
              by_cases c10 : 0 ≤ x7_1
              · rw [if_pos c10] at H
                have c10b0 : decide (0 ≤ x7_1) = true := decide_eq_true c10
                clear c10
                by_cases c11 : ((rd l1 x7_1) > 0)
                · rw [if_pos c11] at H
                  have c11b0 : decide (0 < (rd l1 x7_1)) = true := decide_eq_true c11
                  have c11e : (decide ((rd l1 x7_1) > 0)) = true := c11b0
                  simp only [c11e] at H
                  clear c11e
                  clear c11
                  by_cases c12 : (rd l1 x7_1) < 1
                  · rw [if_pos c12] at H
                    have c12b0 : decide ((rd l1 x7_1) < 1) = true := decide_eq_true c12
                    clear c12
                    simp only [Option.some.injEq, Prod.mk.injEq] at H
                    obtain ⟨rfl, rfl⟩ := H
                    have p184 : 0 ≤ (x7_1 : Int) := of_decide_eq_true (by first | (with_reducible assumption) | assumption)
                    have q184 : x7_1 < (l1.length : Int) := of_decide_eq_true (by first | (with_reducible assumption) | assumption)
                    obtain ⟨ad184, e184, hx184_0⟩ := Kd.at_int HR1.out x7_1 p184 q184
                    cases e184
                    replace hx184_0 := (HB.out.cell (World.block_lt_of_cell? w _ hx184_0)).trans hx184_0
                    replace p184 := eq_true p184
                    replace q184 := eq_true q184
                    go_wp2
                    repeat (go_quiet (fail); try go_wp2)
                    go_ret2
                    exact ⟨by first | rfl | (simp [errW_none, errW_some] <;> rfl) | (simp only [← hji4]; first | rfl | (simp [errW_none, errW_some] <;> rfl)) | (simp [*, errW_none, errW_some] <;> rfl), by repeat (first | (with_reducible first | exact HB.out | apply below_alloc | apply pw_below_drewN | apply below_drew1) | exact HB.out)⟩
                  · rw [if_neg c12] at H
                    have c12b0 : decide ((rd l1 x7_1) < 1) = false := decide_eq_false c12
                    clear c12
                    by_cases c13 : (rd l1 x7_1) > a0
                    · rw [if_pos c13] at H
                      have c13b0 : decide (a0 < (rd l1 x7_1)) = true := decide_eq_true c13
                      clear c13
                      simp only [Option.some.injEq, Prod.mk.injEq] at H
                      obtain ⟨rfl, rfl⟩ := H
                      have p184 : 0 ≤ (x7_1 : Int) := of_decide_eq_true (by first | (with_reducible assumption) | assumption)
                      have q184 : x7_1 < (l1.length : Int) := of_decide_eq_true (by first | (with_reducible assumption) | assumption)
                      obtain ⟨ad184, e184, hx184_0⟩ := Kd.at_int HR1.out x7_1 p184 q184
                      cases e184
                      replace hx184_0 := (HB.out.cell (World.block_lt_of_cell? w _ hx184_0)).trans hx184_0
                      replace p184 := eq_true p184
                      replace q184 := eq_true q184
                      go_wp2
                      repeat (go_quiet (fail); try go_wp2)
                      go_ret2
                      exact ⟨by first | rfl | (simp [errW_none, errW_some] <;> rfl) | (simp only [← hji4]; first | rfl | (simp [errW_none, errW_some] <;> rfl)) | (simp [*, errW_none, errW_some] <;> rfl), by repeat (first | (with_reducible first | exact HB.out | apply below_alloc | apply pw_below_drewN | apply below_drew1) | exact HB.out)⟩
                    · rw [if_neg c13] at H
                      have c13b0 : decide (a0 < (rd l1 x7_1)) = false := decide_eq_false c13
                      clear c13
                      by_cases c14 : 0 ≤ (rd l1 x7_1)
                      · rw [if_pos c14] at H
                        have c14b0 : decide (0 ≤ (rd l1 x7_1)) = true := decide_eq_true c14
                        clear c14
                        by_cases c15 : (rd l1 x7_1) < (x6_1.length : Int)
                        · rw [if_pos c15] at H
                          have c15b0 : decide ((rd l1 x7_1) < (x6_1.length : Int)) = true := decide_eq_true c15
                          clear c15
                          by_cases c16 : ((rdOf false x6_1 (rd l1 x7_1)) == true) = true
                          · rw [if_pos c16] at H
                            have c16b0 : ((rdOf false x6_1 (rd l1 x7_1)) == true) = true := c16
                            (try (have c16b7 : (rdOf false x6_1 (rd l1 x7_1)) = true := by simpa using c16))
                            (try (have c16b8 : (!(rdOf false x6_1 (rd l1 x7_1))) = false := by simpa using c16))
                            (try (have c16b1 : decide ((rdOf false x6_1 (rd l1 x7_1)) = true) = true := by simpa using c16))
                            (try (have c16b2 : ((rdOf false x6_1 (rd l1 x7_1)) == true) = true := by simpa using c16))
                            clear c16
                            simp only [Option.some.injEq, Prod.mk.injEq] at H
                            obtain ⟨rfl, rfl⟩ := H
                            have p184 : 0 ≤ (x7_1 : Int) := of_decide_eq_true (by first | (with_reducible assumption) | assumption)
                            have q184 : x7_1 < (l1.length : Int) := of_decide_eq_true (by first | (with_reducible assumption) | assumption)
                            obtain ⟨ad184, e184, hx184_0⟩ := Kd.at_int HR1.out x7_1 p184 q184
                            cases e184
                            replace hx184_0 := (HB.out.cell (World.block_lt_of_cell? w _ hx184_0)).trans hx184_0
                            replace p184 := eq_true p184
                            replace q184 := eq_true q184
                            obtain ⟨Ao17, co17, eo17⟩ := Kd.R_slice HO_6.out
                            subst eo17
                            have p185 : 0 ≤ ((rd l1 x7_1) : Int) := of_decide_eq_true (by first | (with_reducible assumption) | assumption)
                            have q185 : (rd l1 x7_1) < (x6_1.length : Int) := of_decide_eq_true (by first | (with_reducible assumption) | assumption)
                            obtain ⟨ad185, e185, hx185_0⟩ := Kd.at_bool (Kd.R_reads' HO_6.out).2.2 (rd l1 x7_1) p185 q185
                            cases e185
                            replace p185 := eq_true p185
                            replace q185 := eq_true q185
                            go_wp2
                            repeat (go_quiet (fail); try go_wp2)
                            go_ret2
                            exact ⟨by first | rfl | (simp [errW_none, errW_some] <;> rfl) | (simp only [← hji4]; first | rfl | (simp [errW_none, errW_some] <;> rfl)) | (simp [*, errW_none, errW_some] <;> rfl), by repeat (first | (with_reducible first | exact HB.out | apply below_alloc | apply pw_below_drewN | apply below_drew1) | exact HB.out)⟩
                          · rw [if_neg c16] at H
                            have c16b0 : ((rdOf false x6_1 (rd l1 x7_1)) == true) = false := by simpa using c16
                            (try (have c16b7 : (rdOf false x6_1 (rd l1 x7_1)) = false := by simpa using c16))
                            (try (have c16b8 : (!(rdOf false x6_1 (rd l1 x7_1))) = true := by simpa using c16))
                            (try (have c16b1 : decide ((rdOf false x6_1 (rd l1 x7_1)) = true) = false := by simpa using c16))
                            (try (have c16b2 : ((rdOf false x6_1 (rd l1 x7_1)) == true) = false := by simpa using c16))
                            (try (have c16b3 : ¬ ((rdOf false x6_1 (rd l1 x7_1)) = true) := by simpa using c16))
                            clear c16
                            by_cases c18 : (rd l1 x7_1) > 1
                            · rw [if_pos c18] at H
                              have c18b0 : decide (1 < (rd l1 x7_1)) = true := decide_eq_true c18
                              clear c18
                              obtain ⟨ji19, hji19⟩ : ∃ j_ : Int, (wrap64 ((rd l1 x7_1) - 1)) = j_ := ⟨_, rfl⟩
                              replace H : (if 0 ≤ (ji19) then (if (ji19) < (x6_1.length : Int) then (if (rdOf false x6_1 (ji19) = true) then (backstepref44_Legal.l0 k1 a0 l1 (x6_1.set ((rd l1 x7_1) : Int).toNat true) (wrap64 (x7_1 + 1))) else (some (x7_1, false))) else (none)) else (none)) = some (r1, r2) := by first | (rw [hji19] at H; exact H) | (simp only [hji19] at H ⊢; exact H)
                              have hji19w : (IntKind.i64.wrap ((rd l1 x7_1) - 1)) = ji19 := (i64_w _).trans hji19
                              by_cases c20 : 0 ≤ (ji19)
                              · rw [if_pos c20] at H
                                have c20b0 : decide (0 ≤ (ji19)) = true := decide_eq_true c20
                                clear c20
                                by_cases c21 : (ji19) < (x6_1.length : Int)
                                · rw [if_pos c21] at H
                                  have c21b0 : decide ((ji19) < (x6_1.length : Int)) = true := decide_eq_true c21
                                  clear c21
                                  obtain ⟨bq22, hbq22⟩ : ∃ b_ : Bool, b_ = (rdOf false x6_1 (ji19)) := ⟨_, rfl⟩
                                  replace H : (if (bq22 = true) then (backstepref44_Legal.l0 k1 a0 l1 (x6_1.set ((rd l1 x7_1) : Int).toNat true) (wrap64 (x7_1 + 1))) else (some (x7_1, false))) = some (r1, r2) := by rw [← hbq22] at H; exact H
                                  have Nbq22 := Aside0.mk hbq22
                                  clear hbq22
                                  by_cases c23 : (bq22 = true)
                                  · subst c23
                                    have H1 : (backstepref44_Legal.l0 k1 a0 l1 (x6_1.set ((rd l1 x7_1) : Int).toNat true) (wrap64 (x7_1 + 1))) = some (r1, r2) := by rw [if_pos rfl] at H; exact H
                                    clear H
                                    have H := H1
                                    clear H1
                                    obtain ⟨y187, hy187⟩ : ∃ y_ : List Bool, y_ = (x6_1.set ((rd l1 x7_1) : Int).toNat true) := ⟨_, rfl⟩
                                    replace H : (backstepref44_Legal.l0 k1 a0 l1 y187 (wrap64 (x7_1 + 1))) = some (r1, r2) := by first | (rw [hy187]; with_reducible exact H) | (have H2_ := (Option.bind_some _ _).symm.trans H; rw [hy187]; with_reducible exact H2_) | (have H2_ := (Option.bind_some _ _).symm.trans H; with_reducible exact H2_) | with_reducible exact H | (rw [hy187]; exact H) | exact H
                                    have Ny187 := Aside0.mk hy187
                                    clear hy187
                                    have H' := Aside0.mk H
                                    clear H
                                    have p184 : 0 ≤ (x7_1 : Int) := of_decide_eq_true (by first | (with_reducible assumption) | assumption)
                                    have q184 : x7_1 < (l1.length : Int) := of_decide_eq_true (by first | (with_reducible assumption) | assumption)
                                    obtain ⟨ad184, e184, hx184_0⟩ := Kd.at_int HR1.out x7_1 p184 q184
                                    cases e184
                                    replace hx184_0 := (HB.out.cell (World.block_lt_of_cell? w _ hx184_0)).trans hx184_0
                                    replace p184 := eq_true p184
                                    replace q184 := eq_true q184
                                    obtain ⟨Ao25, co25, eo25⟩ := Kd.R_slice HO_6.out
                                    subst eo25
                                    have p185 : 0 ≤ ((rd l1 x7_1) : Int) := of_decide_eq_true (by first | (with_reducible assumption) | assumption)
                                    have q185 : (rd l1 x7_1) < (x6_1.length : Int) := of_decide_eq_true (by first | (with_reducible assumption) | assumption)
                                    obtain ⟨ad185, e185, hx185_0⟩ := Kd.at_bool (Kd.R_reads' HO_6.out).2.2 (rd l1 x7_1) p185 q185
                                    (try rw [← Nbq22.out] at hx185_0)
                                    cases e185
                                    replace p185 := eq_true p185
                                    replace q185 := eq_true q185
                                    have p186 : 0 ≤ ((ji19) : Int) := of_decide_eq_true (by first | (with_reducible assumption) | assumption)
                                    have q186 : (ji19) < (x6_1.length : Int) := of_decide_eq_true (by first | (with_reducible assumption) | assumption)
                                    obtain ⟨ad186, e186, hx186_0⟩ := Kd.at_bool (Kd.R_reads' HO_6.out).2.2 (ji19) p186 q186
                                    (try rw [← Nbq22.out] at hx186_0)
                                    obtain rfl : ad185 = ad186 := (by injection e186)
                                    replace p186 := eq_true p186
                                    replace q186 := eq_true q186
                                    have p24 : 0 ≤ ((rd l1 x7_1) : Int) := of_decide_eq_true (by first | (with_reducible assumption) | assumption)
                                    have q24 : ((rd l1 x7_1) : Int) < ((x6_1.length : Int) : Int) := of_decide_eq_true (by first | (with_reducible assumption) | assumption)
                                    obtain ⟨go24, co24, eo24, gb24, gl24, cl24, HG24⟩ := Kd.R_form HO_6.out (by omega)
                                    (first | cases eo24 | (injection eo24 with ea_ en_ ec_; (first | subst ea_ | (injection ea_ with ea_; subst ea_)); subst ec_; clear en_))
                                    have GB24 := Aside0.mk gb24
                                    have GG24 := Aside0.mk HG24
                                    clear gb24 gl24 HG24
                                    (first | simp only [add_plain] at hx185_0 | skip)
                                    (first | simp only [add_plain] at hx186_0 | skip)
                                    obtain ⟨hx24_0, hf24_0⟩ := Kd.R_celln false HO_6.out ((rd l1 x7_1) : Int) p24 q24
                                    replace p24 := eq_true p24
                                    replace q24 := eq_true q24
                                    have HP26 := Kd.R_putg HO_6.out ((rd l1 x7_1) : Int) true
                                    go_wp2_with (first | ((with_reducible refine gate_store (t := 4) (p := 63) rfl ?_); (try (rw [drewN_self wr]; generalize hq_ : World.drewN wr _ = wr; have n0_ := Aside0.mk (Kd.R_at hq_ HO_6.out); have n1_ := Aside0.mk (below_at hq_ HB.out); clear hq_ HO_6 HB; have HO_6 := n0_; have HB := n1_; clear n0_ n1_; (try (have HP26 := Kd.R_putg HO_6.out ((rd l1 x7_1) : Int) true)))); refine store_event (t := 4) (p := 63) (v := ?vo_w27) (w1 := (wr.setCell ⟨go24, ((rd l1 x7_1) : Int).toNat, none⟩ (.bool true))) ?hg ?ho ?hn ?hr ?_; (case ho => rfl); (case hg => rfl); (case hn => rfl); (case hr => first | (go_simp; done) | (go_simp; rfl)); intro w27 hw; have hg : wr.grownBy w27 (some go24) := (by rw [hw]; exact HP26.2); have hp_ : Kd.R Kd.bool 4 w27 w.heap.size (fun _ => True) (.slice (some ⟨go24, 0, none⟩) x6_1.length co25) y187 := (by rw [hw, Ny187.out]; exact HP26.1); clear HP26; have n0_ := Aside0.mk (hp_); have n1_ := Aside0.mk ((by rw [hw]; exact below_set (HB.out) GB24.out : Below w.heap.size w w27)); clear HO_6; clear HB; have HO_6 := n0_; have HB := n1_; clear n0_ n1_; clear hg hw hp_))
                                    repeat (go_quiet (first | ((with_reducible refine gate_store (t := 4) (p := 63) rfl ?_); (try (rw [drewN_self wr]; generalize hq_ : World.drewN wr _ = wr; have n0_ := Aside0.mk (Kd.R_at hq_ HO_6.out); have n1_ := Aside0.mk (below_at hq_ HB.out); clear hq_ HO_6 HB; have HO_6 := n0_; have HB := n1_; clear n0_ n1_; (try (have HP26 := Kd.R_putg HO_6.out ((rd l1 x7_1) : Int) true)))); refine store_event (t := 4) (p := 63) (v := ?vo_w27) (w1 := (wr.setCell ⟨go24, ((rd l1 x7_1) : Int).toNat, none⟩ (.bool true))) ?hg ?ho ?hn ?hr ?_; (case ho => rfl); (case hg => rfl); (case hn => rfl); (case hr => first | (go_simp; done) | (go_simp; rfl)); intro w27 hw; have hg : wr.grownBy w27 (some go24) := (by rw [hw]; exact HP26.2); have hp_ : Kd.R Kd.bool 4 w27 w.heap.size (fun _ => True) (.slice (some ⟨go24, 0, none⟩) x6_1.length co25) y187 := (by rw [hw, Ny187.out]; exact HP26.1); clear HP26; have n0_ := Aside0.mk (hp_); have n1_ := Aside0.mk ((by rw [hw]; exact below_set (HB.out) GB24.out : Below w.heap.size w w27)); clear HO_6; clear HB; have HO_6 := n0_; have HB := n1_; clear n0_ n1_; clear hg hw hp_)); try go_wp2_with (first | ((with_reducible refine gate_store (t := 4) (p := 63) rfl ?_); (try (rw [drewN_self wr]; generalize hq_ : World.drewN wr _ = wr; have n0_ := Aside0.mk (Kd.R_at hq_ HO_6.out); have n1_ := Aside0.mk (below_at hq_ HB.out); clear hq_ HO_6 HB; have HO_6 := n0_; have HB := n1_; clear n0_ n1_; (try (have HP26 := Kd.R_putg HO_6.out ((rd l1 x7_1) : Int) true)))); refine store_event (t := 4) (p := 63) (v := ?vo_w27) (w1 := (wr.setCell ⟨go24, ((rd l1 x7_1) : Int).toNat, none⟩ (.bool true))) ?hg ?ho ?hn ?hr ?_; (case ho => rfl); (case hg => rfl); (case hn => rfl); (case hr => first | (go_simp; done) | (go_simp; rfl)); intro w27 hw; have hg : wr.grownBy w27 (some go24) := (by rw [hw]; exact HP26.2); have hp_ : Kd.R Kd.bool 4 w27 w.heap.size (fun _ => True) (.slice (some ⟨go24, 0, none⟩) x6_1.length co25) y187 := (by rw [hw, Ny187.out]; exact HP26.1); clear HP26; have n0_ := Aside0.mk (hp_); have n1_ := Aside0.mk ((by rw [hw]; exact below_set (HB.out) GB24.out : Below w.heap.size w w27)); clear HO_6; clear HB; have HO_6 := n0_; have HB := n1_; clear n0_ n1_; clear hg hw hp_)))
                                    go_roundg k1
                                    case measure => have := HK1.out; omega
                                    case rel => exact ⟨(y187), (wrap64 (x7_1 + 1)), (by first | rfl | (simp; done) | (simp [*]; done)), H', ⟨by have := HK1.out; omega⟩, ⟨by (with_reducible repeat (first | apply Kd.R_alloc | apply Kd.R_drewN | apply Kd.R_drew)); exact HO_6.out⟩, ⟨by repeat (first | (with_reducible first | exact HB.out | apply below_alloc | apply pw_below_drewN | apply below_drew1) | exact HB.out)⟩⟩
                                  · replace c23 := Bool.eq_false_iff.mpr c23
                                    subst c23
                                    have H1 : (some (x7_1, false)) = some (r1, r2) := by rw [if_neg (show ¬ (false = true) by decide)] at H; exact H
                                    clear H
                                    have H := H1
                                    clear H1
                                    simp only [Option.some.injEq, Prod.mk.injEq] at H
                                    obtain ⟨rfl, rfl⟩ := H
                                    have p184 : 0 ≤ (x7_1 : Int) := of_decide_eq_true (by first | (with_reducible assumption) | assumption)
                                    have q184 : x7_1 < (l1.length : Int) := of_decide_eq_true (by first | (with_reducible assumption) | assumption)
                                    obtain ⟨ad184, e184, hx184_0⟩ := Kd.at_int HR1.out x7_1 p184 q184
                                    cases e184
                                    replace hx184_0 := (HB.out.cell (World.block_lt_of_cell? w _ hx184_0)).trans hx184_0
                                    replace p184 := eq_true p184
                                    replace q184 := eq_true q184
                                    obtain ⟨Ao28, co28, eo28⟩ := Kd.R_slice HO_6.out
                                    subst eo28
                                    have p185 : 0 ≤ ((rd l1 x7_1) : Int) := of_decide_eq_true (by first | (with_reducible assumption) | assumption)
                                    have q185 : (rd l1 x7_1) < (x6_1.length : Int) := of_decide_eq_true (by first | (with_reducible assumption) | assumption)
                                    obtain ⟨ad185, e185, hx185_0⟩ := Kd.at_bool (Kd.R_reads' HO_6.out).2.2 (rd l1 x7_1) p185 q185
                                    (try rw [← Nbq22.out] at hx185_0)
                                    cases e185
                                    replace p185 := eq_true p185
                                    replace q185 := eq_true q185
                                    have p186 : 0 ≤ ((ji19) : Int) := of_decide_eq_true (by first | (with_reducible assumption) | assumption)
                                    have q186 : (ji19) < (x6_1.length : Int) := of_decide_eq_true (by first | (with_reducible assumption) | assumption)
                                    obtain ⟨ad186, e186, hx186_0⟩ := Kd.at_bool (Kd.R_reads' HO_6.out).2.2 (ji19) p186 q186
                                    (try rw [← Nbq22.out] at hx186_0)
                                    obtain rfl : ad185 = ad186 := (by injection e186)
                                    replace p186 := eq_true p186
                                    replace q186 := eq_true q186
                                    go_wp2
                                    repeat (go_quiet (fail); try go_wp2)
                                    go_ret2
                                    exact ⟨by first | rfl | (simp [errW_none, errW_some] <;> rfl) | (simp only [← hji4, ← hji19]; first | rfl | (simp [errW_none, errW_some] <;> rfl)) | (simp [*, errW_none, errW_some] <;> rfl), by repeat (first | (with_reducible first | exact HB.out | apply below_alloc | apply pw_below_drewN | apply below_drew1) | exact HB.out)⟩
                                · rw [if_neg c21] at H
                                  exact absurd H (by simp)
                              · rw [if_neg c20] at H
                                exact absurd H (by simp)
                            · rw [if_neg c18] at H
                              have c18b0 : decide (1 < (rd l1 x7_1)) = false := decide_eq_false c18
                              clear c18
                              obtain ⟨y188, hy188⟩ : ∃ y_ : List Bool, y_ = (x6_1.set ((rd l1 x7_1) : Int).toNat true) := ⟨_, rfl⟩
                              replace H : (backstepref44_Legal.l0 k1 a0 l1 y188 (wrap64 (x7_1 + 1))) = some (r1, r2) := by first | (rw [hy188]; with_reducible exact H) | (have H2_ := (Option.bind_some _ _).symm.trans H; rw [hy188]; with_reducible exact H2_) | (have H2_ := (Option.bind_some _ _).symm.trans H; with_reducible exact H2_) | with_reducible exact H | (rw [hy188]; exact H) | exact H
                              have Ny188 := Aside0.mk hy188
                              clear hy188
                              have H' := Aside0.mk H
                              clear H
                              have p184 : 0 ≤ (x7_1 : Int) := of_decide_eq_true (by first | (with_reducible assumption) | assumption)
                              have q184 : x7_1 < (l1.length : Int) := of_decide_eq_true (by first | (with_reducible assumption) | assumption)
                              obtain ⟨ad184, e184, hx184_0⟩ := Kd.at_int HR1.out x7_1 p184 q184
                              cases e184
                              replace hx184_0 := (HB.out.cell (World.block_lt_of_cell? w _ hx184_0)).trans hx184_0
                              replace p184 := eq_true p184
                              replace q184 := eq_true q184
                              obtain ⟨Ao30, co30, eo30⟩ := Kd.R_slice HO_6.out
                              subst eo30
                              have p185 : 0 ≤ ((rd l1 x7_1) : Int) := of_decide_eq_true (by first | (with_reducible assumption) | assumption)
                              have q185 : (rd l1 x7_1) < (x6_1.length : Int) := of_decide_eq_true (by first | (with_reducible assumption) | assumption)
                              obtain ⟨ad185, e185, hx185_0⟩ := Kd.at_bool (Kd.R_reads' HO_6.out).2.2 (rd l1 x7_1) p185 q185
                              cases e185
                              replace p185 := eq_true p185
                              replace q185 := eq_true q185
                              have p29 : 0 ≤ ((rd l1 x7_1) : Int) := of_decide_eq_true (by first | (with_reducible assumption) | assumption)
                              have q29 : ((rd l1 x7_1) : Int) < ((x6_1.length : Int) : Int) := of_decide_eq_true (by first | (with_reducible assumption) | assumption)
                              obtain ⟨go29, co29, eo29, gb29, gl29, cl29, HG29⟩ := Kd.R_form HO_6.out (by omega)
                              (first | cases eo29 | (injection eo29 with ea_ en_ ec_; (first | subst ea_ | (injection ea_ with ea_; subst ea_)); subst ec_; clear en_))
                              have GB29 := Aside0.mk gb29
                              have GG29 := Aside0.mk HG29
                              clear gb29 gl29 HG29
                              (first | simp only [add_plain] at hx185_0 | skip)
                              (first | simp only [add_plain] at hx186_0 | skip)
                              obtain ⟨hx29_0, hf29_0⟩ := Kd.R_celln false HO_6.out ((rd l1 x7_1) : Int) p29 q29
                              replace p29 := eq_true p29
                              replace q29 := eq_true q29
                              have HP31 := Kd.R_putg HO_6.out ((rd l1 x7_1) : Int) true
                              go_wp2_with (first | ((with_reducible refine gate_store (t := 4) (p := 63) rfl ?_); (try (rw [drewN_self wr]; generalize hq_ : World.drewN wr _ = wr; have n0_ := Aside0.mk (Kd.R_at hq_ HO_6.out); have n1_ := Aside0.mk (below_at hq_ HB.out); clear hq_ HO_6 HB; have HO_6 := n0_; have HB := n1_; clear n0_ n1_; (try (have HP31 := Kd.R_putg HO_6.out ((rd l1 x7_1) : Int) true)))); refine store_event (t := 4) (p := 63) (v := ?vo_w32) (w1 := (wr.setCell ⟨go29, ((rd l1 x7_1) : Int).toNat, none⟩ (.bool true))) ?hg ?ho ?hn ?hr ?_; (case ho => rfl); (case hg => rfl); (case hn => rfl); (case hr => first | (go_simp; done) | (go_simp; rfl)); intro w32 hw; have hg : wr.grownBy w32 (some go29) := (by rw [hw]; exact HP31.2); have hp_ : Kd.R Kd.bool 4 w32 w.heap.size (fun _ => True) (.slice (some ⟨go29, 0, none⟩) x6_1.length co30) y188 := (by rw [hw, Ny188.out]; exact HP31.1); clear HP31; have n0_ := Aside0.mk (hp_); have n1_ := Aside0.mk ((by rw [hw]; exact below_set (HB.out) GB29.out : Below w.heap.size w w32)); clear HO_6; clear HB; have HO_6 := n0_; have HB := n1_; clear n0_ n1_; clear hg hw hp_))
                              repeat (go_quiet (first | ((with_reducible refine gate_store (t := 4) (p := 63) rfl ?_); (try (rw [drewN_self wr]; generalize hq_ : World.drewN wr _ = wr; have n0_ := Aside0.mk (Kd.R_at hq_ HO_6.out); have n1_ := Aside0.mk (below_at hq_ HB.out); clear hq_ HO_6 HB; have HO_6 := n0_; have HB := n1_; clear n0_ n1_; (try (have HP31 := Kd.R_putg HO_6.out ((rd l1 x7_1) : Int) true)))); refine store_event (t := 4) (p := 63) (v := ?vo_w32) (w1 := (wr.setCell ⟨go29, ((rd l1 x7_1) : Int).toNat, none⟩ (.bool true))) ?hg ?ho ?hn ?hr ?_; (case ho => rfl); (case hg => rfl); (case hn => rfl); (case hr => first | (go_simp; done) | (go_simp; rfl)); intro w32 hw; have hg : wr.grownBy w32 (some go29) := (by rw [hw]; exact HP31.2); have hp_ : Kd.R Kd.bool 4 w32 w.heap.size (fun _ => True) (.slice (some ⟨go29, 0, none⟩) x6_1.length co30) y188 := (by rw [hw, Ny188.out]; exact HP31.1); clear HP31; have n0_ := Aside0.mk (hp_); have n1_ := Aside0.mk ((by rw [hw]; exact below_set (HB.out) GB29.out : Below w.heap.size w w32)); clear HO_6; clear HB; have HO_6 := n0_; have HB := n1_; clear n0_ n1_; clear hg hw hp_)); try go_wp2_with (first | ((with_reducible refine gate_store (t := 4) (p := 63) rfl ?_); (try (rw [drewN_self wr]; generalize hq_ : World.drewN wr _ = wr; have n0_ := Aside0.mk (Kd.R_at hq_ HO_6.out); have n1_ := Aside0.mk (below_at hq_ HB.out); clear hq_ HO_6 HB; have HO_6 := n0_; have HB := n1_; clear n0_ n1_; (try (have HP31 := Kd.R_putg HO_6.out ((rd l1 x7_1) : Int) true)))); refine store_event (t := 4) (p := 63) (v := ?vo_w32) (w1 := (wr.setCell ⟨go29, ((rd l1 x7_1) : Int).toNat, none⟩ (.bool true))) ?hg ?ho ?hn ?hr ?_; (case ho => rfl); (case hg => rfl); (case hn => rfl); (case hr => first | (go_simp; done) | (go_simp; rfl)); intro w32 hw; have hg : wr.grownBy w32 (some go29) := (by rw [hw]; exact HP31.2); have hp_ : Kd.R Kd.bool 4 w32 w.heap.size (fun _ => True) (.slice (some ⟨go29, 0, none⟩) x6_1.length co30) y188 := (by rw [hw, Ny188.out]; exact HP31.1); clear HP31; have n0_ := Aside0.mk (hp_); have n1_ := Aside0.mk ((by rw [hw]; exact below_set (HB.out) GB29.out : Below w.heap.size w w32)); clear HO_6; clear HB; have HO_6 := n0_; have HB := n1_; clear n0_ n1_; clear hg hw hp_)))
                              go_roundg k1
                              case measure => have := HK1.out; omega
                              case rel => exact ⟨(y188), (wrap64 (x7_1 + 1)), (by first | rfl | (simp; done) | (simp [*]; done)), H', ⟨by have := HK1.out; omega⟩, ⟨by (with_reducible repeat (first | apply Kd.R_alloc | apply Kd.R_drewN | apply Kd.R_drew)); exact HO_6.out⟩, ⟨by repeat (first | (with_reducible first | exact HB.out | apply below_alloc | apply pw_below_drewN | apply below_drew1) | exact HB.out)⟩⟩
                        · rw [if_neg c15] at H
                          exact absurd H (by simp)
                      · rw [if_neg c14] at H
                        exact absurd H (by simp)
                · rw [if_neg c11] at H
                  have c11b0 : decide (0 < (rd l1 x7_1)) = false := decide_eq_false c11
                  have c11e : (decide ((rd l1 x7_1) > 0)) = false := c11b0
                  simp only [c11e] at H
                  clear c11e
                  clear c11
                  by_cases c33 : (wrap64 (-(rd l1 x7_1))) < 1
                  · rw [if_pos c33] at H
                    have c33b0 : decide ((wrap64 (-(rd l1 x7_1))) < 1) = true := decide_eq_true c33
                    clear c33
                    simp only [Option.some.injEq, Prod.mk.injEq] at H
                    obtain ⟨rfl, rfl⟩ := H
                    have p184 : 0 ≤ (x7_1 : Int) := of_decide_eq_true (by first | (with_reducible assumption) | assumption)
                    have q184 : x7_1 < (l1.length : Int) := of_decide_eq_true (by first | (with_reducible assumption) | assumption)
                    obtain ⟨ad184, e184, hx184_0⟩ := Kd.at_int HR1.out x7_1 p184 q184
                    cases e184
                    replace hx184_0 := (HB.out.cell (World.block_lt_of_cell? w _ hx184_0)).trans hx184_0
                    replace p184 := eq_true p184
                    replace q184 := eq_true q184
                    go_wp2
                    repeat (go_quiet (fail); try go_wp2)
                    go_ret2
                    exact ⟨by first | rfl | (simp [errW_none, errW_some] <;> rfl) | (simp only [← hji4]; first | rfl | (simp [errW_none, errW_some] <;> rfl)) | (simp [*, errW_none, errW_some] <;> rfl), by repeat (first | (with_reducible first | exact HB.out | apply below_alloc | apply pw_below_drewN | apply below_drew1) | exact HB.out)⟩
                  · rw [if_neg c33] at H
                    have c33b0 : decide ((wrap64 (-(rd l1 x7_1))) < 1) = false := decide_eq_false c33
                    clear c33
                    by_cases c34 : (wrap64 (-(rd l1 x7_1))) > a0
                    · rw [if_pos c34] at H
                      have c34b0 : decide (a0 < (wrap64 (-(rd l1 x7_1)))) = true := decide_eq_true c34
                      clear c34
                      simp only [Option.some.injEq, Prod.mk.injEq] at H
                      obtain ⟨rfl, rfl⟩ := H
                      have p184 : 0 ≤ (x7_1 : Int) := of_decide_eq_true (by first | (with_reducible assumption) | assumption)
                      have q184 : x7_1 < (l1.length : Int) := of_decide_eq_true (by first | (with_reducible assumption) | assumption)
                      obtain ⟨ad184, e184, hx184_0⟩ := Kd.at_int HR1.out x7_1 p184 q184
                      cases e184
                      replace hx184_0 := (HB.out.cell (World.block_lt_of_cell? w _ hx184_0)).trans hx184_0
                      replace p184 := eq_true p184
                      replace q184 := eq_true q184
                      go_wp2
                      repeat (go_quiet (fail); try go_wp2)
                      go_ret2
                      exact ⟨by first | rfl | (simp [errW_none, errW_some] <;> rfl) | (simp only [← hji4]; first | rfl | (simp [errW_none, errW_some] <;> rfl)) | (simp [*, errW_none, errW_some] <;> rfl), by repeat (first | (with_reducible first | exact HB.out | apply below_alloc | apply pw_below_drewN | apply below_drew1) | exact HB.out)⟩
                    · rw [if_neg c34] at H
                      have c34b0 : decide (a0 < (wrap64 (-(rd l1 x7_1)))) = false := decide_eq_false c34
                      clear c34
                      obtain ⟨ji35, hji35⟩ : ∃ j_ : Int, (wrap64 (-(rd l1 x7_1))) = j_ := ⟨_, rfl⟩
                      replace H : (if 0 ≤ (ji35) then (if (ji35) < (x6_1.length : Int) then (if ((rdOf false x6_1 (ji35)) == false) = true then (some (x7_1, false)) else (if (ji35) > 1 then (if 0 ≤ (wrap64 ((ji35) - 1)) then (if (wrap64 ((ji35) - 1)) < (x6_1.length : Int) then (if (rdOf false x6_1 (wrap64 ((ji35) - 1)) = true) then (backstepref44_Legal.l0 k1 a0 l1 (x6_1.set ((ji35) : Int).toNat false) (wrap64 (x7_1 + 1))) else (some (x7_1, false))) else (none)) else (none)) else (backstepref44_Legal.l0 k1 a0 l1 (x6_1.set ((ji35) : Int).toNat false) (wrap64 (x7_1 + 1))))) else (none)) else (none)) = some (r1, r2) := by first | (rw [hji35] at H; exact H) | (simp only [hji35] at H ⊢; exact H)
                      (try rw [hji35] at c33b0)
                      (try rw [hji35] at c34b0)
                      have hji35w : (IntKind.i64.wrap (-(rd l1 x7_1))) = ji35 := (i64_w _).trans hji35
                      by_cases c36 : 0 ≤ (ji35)
                      · rw [if_pos c36] at H
                        have c36b0 : decide (0 ≤ (ji35)) = true := decide_eq_true c36
                        clear c36
                        by_cases c37 : (ji35) < (x6_1.length : Int)
                        · rw [if_pos c37] at H
                          have c37b0 : decide ((ji35) < (x6_1.length : Int)) = true := decide_eq_true c37
                          clear c37
                          by_cases c38 : ((rdOf false x6_1 (ji35)) == false) = true
                          · rw [if_pos c38] at H
                            have c38b0 : ((rdOf false x6_1 (ji35)) == false) = true := c38
                            (try (have c38b7 : (rdOf false x6_1 (ji35)) = false := by simpa using c38))
                            (try (have c38b8 : (!(rdOf false x6_1 (ji35))) = true := by simpa using c38))
                            (try (have c38b1 : decide ((rdOf false x6_1 (ji35)) = false) = true := by simpa using c38))
                            (try (have c38b2 : ((rdOf false x6_1 (ji35)) == false) = true := by simpa using c38))
                            clear c38
                            simp only [Option.some.injEq, Prod.mk.injEq] at H
                            obtain ⟨rfl, rfl⟩ := H
                            have p184 : 0 ≤ (x7_1 : Int) := of_decide_eq_true (by first | (with_reducible assumption) | assumption)
                            have q184 : x7_1 < (l1.length : Int) := of_decide_eq_true (by first | (with_reducible assumption) | assumption)
                            obtain ⟨ad184, e184, hx184_0⟩ := Kd.at_int HR1.out x7_1 p184 q184
                            cases e184
                            replace hx184_0 := (HB.out.cell (World.block_lt_of_cell? w _ hx184_0)).trans hx184_0
                            replace p184 := eq_true p184
                            replace q184 := eq_true q184
                            obtain ⟨Ao39, co39, eo39⟩ := Kd.R_slice HO_6.out
                            subst eo39
                            have p189 : 0 ≤ ((ji35) : Int) := of_decide_eq_true (by first | (with_reducible assumption) | assumption)
                            have q189 : (ji35) < (x6_1.length : Int) := of_decide_eq_true (by first | (with_reducible assumption) | assumption)
                            obtain ⟨ad189, e189, hx189_0⟩ := Kd.at_bool (Kd.R_reads' HO_6.out).2.2 (ji35) p189 q189
                            cases e189
                            replace p189 := eq_true p189
                            replace q189 := eq_true q189
                            go_wp2
                            repeat (go_quiet (fail); try go_wp2)
                            go_ret2
                            exact ⟨by first | rfl | (simp [errW_none, errW_some] <;> rfl) | (simp only [← hji4, ← hji35]; first | rfl | (simp [errW_none, errW_some] <;> rfl)) | (simp [*, errW_none, errW_some] <;> rfl), by repeat (first | (with_reducible first | exact HB.out | apply below_alloc | apply pw_below_drewN | apply below_drew1) | exact HB.out)⟩
                          · rw [if_neg c38] at H
                            have c38b0 : ((rdOf false x6_1 (ji35)) == false) = false := by simpa using c38
                            (try (have c38b7 : (rdOf false x6_1 (ji35)) = true := by simpa using c38))
                            (try (have c38b8 : (!(rdOf false x6_1 (ji35))) = false := by simpa using c38))
                            (try (have c38b1 : decide ((rdOf false x6_1 (ji35)) = false) = false := by simpa using c38))
                            (try (have c38b2 : ((rdOf false x6_1 (ji35)) == false) = false := by simpa using c38))
                            (try (have c38b3 : ¬ ((rdOf false x6_1 (ji35)) = false) := by simpa using c38))
                            clear c38
                            by_cases c40 : (ji35) > 1
                            · rw [if_pos c40] at H
                              have c40b0 : decide (1 < (ji35)) = true := decide_eq_true c40
                              clear c40
                              obtain ⟨ji41, hji41⟩ : ∃ j_ : Int, (wrap64 ((ji35) - 1)) = j_ := ⟨_, rfl⟩
                              replace H : (if 0 ≤ (ji41) then (if (ji41) < (x6_1.length : Int) then (if (rdOf false x6_1 (ji41) = true) then (backstepref44_Legal.l0 k1 a0 l1 (x6_1.set ((ji35) : Int).toNat false) (wrap64 (x7_1 + 1))) else (some (x7_1, false))) else (none)) else (none)) = some (r1, r2) := by first | (rw [hji41] at H; exact H) | (simp only [hji41] at H ⊢; exact H)
                              have hji41w : (IntKind.i64.wrap ((ji35) - 1)) = ji41 := (i64_w _).trans hji41
                              by_cases c42 : 0 ≤ (ji41)
                              · rw [if_pos c42] at H
                                have c42b0 : decide (0 ≤ (ji41)) = true := decide_eq_true c42
                                clear c42
                                by_cases c43 : (ji41) < (x6_1.length : Int)
                                · rw [if_pos c43] at H
                                  have c43b0 : decide ((ji41) < (x6_1.length : Int)) = true := decide_eq_true c43
                                  clear c43
                                  obtain ⟨bq44, hbq44⟩ : ∃ b_ : Bool, b_ = (rdOf false x6_1 (ji41)) := ⟨_, rfl⟩
                                  replace H : (if (bq44 = true) then (backstepref44_Legal.l0 k1 a0 l1 (x6_1.set ((ji35) : Int).toNat false) (wrap64 (x7_1 + 1))) else (some (x7_1, false))) = some (r1, r2) := by rw [← hbq44] at H; exact H
                                  have Nbq44 := Aside0.mk hbq44
                                  clear hbq44
                                  by_cases c45 : (bq44 = true)
                                  · subst c45
                                    have H1 : (backstepref44_Legal.l0 k1 a0 l1 (x6_1.set ((ji35) : Int).toNat false) (wrap64 (x7_1 + 1))) = some (r1, r2) := by rw [if_pos rfl] at H; exact H
                                    clear H
                                    have H := H1
                                    clear H1
                                    obtain ⟨y191, hy191⟩ : ∃ y_ : List Bool, y_ = (x6_1.set ((ji35) : Int).toNat false) := ⟨_, rfl⟩
                                    replace H : (backstepref44_Legal.l0 k1 a0 l1 y191 (wrap64 (x7_1 + 1))) = some (r1, r2) := by first | (rw [hy191]; with_reducible exact H) | (have H2_ := (Option.bind_some _ _).symm.trans H; rw [hy191]; with_reducible exact H2_) | (have H2_ := (Option.bind_some _ _).symm.trans H; with_reducible exact H2_) | with_reducible exact H | (rw [hy191]; exact H) | exact H
                                    have Ny191 := Aside0.mk hy191
                                    clear hy191
                                    have H' := Aside0.mk H
                                    clear H
                                    have p184 : 0 ≤ (x7_1 : Int) := of_decide_eq_true (by first | (with_reducible assumption) | assumption)
                                    have q184 : x7_1 < (l1.length : Int) := of_decide_eq_true (by first | (with_reducible assumption) | assumption)
                                    obtain ⟨ad184, e184, hx184_0⟩ := Kd.at_int HR1.out x7_1 p184 q184
                                    cases e184
                                    replace hx184_0 := (HB.out.cell (World.block_lt_of_cell? w _ hx184_0)).trans hx184_0
                                    replace p184 := eq_true p184
                                    replace q184 := eq_true q184
                                    obtain ⟨Ao47, co47, eo47⟩ := Kd.R_slice HO_6.out
                                    subst eo47
                                    have p189 : 0 ≤ ((ji35) : Int) := of_decide_eq_true (by first | (with_reducible assumption) | assumption)
                                    have q189 : (ji35) < (x6_1.length : Int) := of_decide_eq_true (by first | (with_reducible assumption) | assumption)
                                    obtain ⟨ad189, e189, hx189_0⟩ := Kd.at_bool (Kd.R_reads' HO_6.out).2.2 (ji35) p189 q189
                                    (try rw [← Nbq44.out] at hx189_0)
                                    cases e189
                                    replace p189 := eq_true p189
                                    replace q189 := eq_true q189
                                    have p190 : 0 ≤ ((ji41) : Int) := of_decide_eq_true (by first | (with_reducible assumption) | assumption)
                                    have q190 : (ji41) < (x6_1.length : Int) := of_decide_eq_true (by first | (with_reducible assumption) | assumption)
                                    obtain ⟨ad190, e190, hx190_0⟩ := Kd.at_bool (Kd.R_reads' HO_6.out).2.2 (ji41) p190 q190
                                    (try rw [← Nbq44.out] at hx190_0)
                                    obtain rfl : ad189 = ad190 := (by injection e190)
                                    replace p190 := eq_true p190
                                    replace q190 := eq_true q190
                                    have p46 : 0 ≤ ((ji35) : Int) := of_decide_eq_true (by first | (with_reducible assumption) | assumption)
                                    have q46 : ((ji35) : Int) < ((x6_1.length : Int) : Int) := of_decide_eq_true (by first | (with_reducible assumption) | assumption)
                                    obtain ⟨go46, co46, eo46, gb46, gl46, cl46, HG46⟩ := Kd.R_form HO_6.out (by omega)
                                    (first | cases eo46 | (injection eo46 with ea_ en_ ec_; (first | subst ea_ | (injection ea_ with ea_; subst ea_)); subst ec_; clear en_))
                                    have GB46 := Aside0.mk gb46
                                    have GG46 := Aside0.mk HG46
                                    clear gb46 gl46 HG46
                                    (first | simp only [add_plain] at hx189_0 | skip)
                                    (first | simp only [add_plain] at hx190_0 | skip)
                                    obtain ⟨hx46_0, hf46_0⟩ := Kd.R_celln false HO_6.out ((ji35) : Int) p46 q46
                                    replace p46 := eq_true p46
                                    replace q46 := eq_true q46
                                    have HP48 := Kd.R_putg HO_6.out ((ji35) : Int) false
                                    go_wp2_with (first | ((with_reducible refine gate_store (t := 4) (p := 63) rfl ?_); (try (rw [drewN_self wr]; generalize hq_ : World.drewN wr _ = wr; have n0_ := Aside0.mk (Kd.R_at hq_ HO_6.out); have n1_ := Aside0.mk (below_at hq_ HB.out); clear hq_ HO_6 HB; have HO_6 := n0_; have HB := n1_; clear n0_ n1_; (try (have HP48 := Kd.R_putg HO_6.out ((ji35) : Int) false)))); refine store_event (t := 4) (p := 63) (v := ?vo_w49) (w1 := (wr.setCell ⟨go46, ((ji35) : Int).toNat, none⟩ (.bool false))) ?hg ?ho ?hn ?hr ?_; (case ho => rfl); (case hg => rfl); (case hn => rfl); (case hr => first | (go_simp; done) | (go_simp; rfl)); intro w49 hw; have hg : wr.grownBy w49 (some go46) := (by rw [hw]; exact HP48.2); have hp_ : Kd.R Kd.bool 4 w49 w.heap.size (fun _ => True) (.slice (some ⟨go46, 0, none⟩) x6_1.length co47) y191 := (by rw [hw, Ny191.out]; exact HP48.1); clear HP48; have n0_ := Aside0.mk (hp_); have n1_ := Aside0.mk ((by rw [hw]; exact below_set (HB.out) GB46.out : Below w.heap.size w w49)); clear HO_6; clear HB; have HO_6 := n0_; have HB := n1_; clear n0_ n1_; clear hg hw hp_))
                                    repeat (go_quiet (first | ((with_reducible refine gate_store (t := 4) (p := 63) rfl ?_); (try (rw [drewN_self wr]; generalize hq_ : World.drewN wr _ = wr; have n0_ := Aside0.mk (Kd.R_at hq_ HO_6.out); have n1_ := Aside0.mk (below_at hq_ HB.out); clear hq_ HO_6 HB; have HO_6 := n0_; have HB := n1_; clear n0_ n1_; (try (have HP48 := Kd.R_putg HO_6.out ((ji35) : Int) false)))); refine store_event (t := 4) (p := 63) (v := ?vo_w49) (w1 := (wr.setCell ⟨go46, ((ji35) : Int).toNat, none⟩ (.bool false))) ?hg ?ho ?hn ?hr ?_; (case ho => rfl); (case hg => rfl); (case hn => rfl); (case hr => first | (go_simp; done) | (go_simp; rfl)); intro w49 hw; have hg : wr.grownBy w49 (some go46) := (by rw [hw]; exact HP48.2); have hp_ : Kd.R Kd.bool 4 w49 w.heap.size (fun _ => True) (.slice (some ⟨go46, 0, none⟩) x6_1.length co47) y191 := (by rw [hw, Ny191.out]; exact HP48.1); clear HP48; have n0_ := Aside0.mk (hp_); have n1_ := Aside0.mk ((by rw [hw]; exact below_set (HB.out) GB46.out : Below w.heap.size w w49)); clear HO_6; clear HB; have HO_6 := n0_; have HB := n1_; clear n0_ n1_; clear hg hw hp_)); try go_wp2_with (first | ((with_reducible refine gate_store (t := 4) (p := 63) rfl ?_); (try (rw [drewN_self wr]; generalize hq_ : World.drewN wr _ = wr; have n0_ := Aside0.mk (Kd.R_at hq_ HO_6.out); have n1_ := Aside0.mk (below_at hq_ HB.out); clear hq_ HO_6 HB; have HO_6 := n0_; have HB := n1_; clear n0_ n1_; (try (have HP48 := Kd.R_putg HO_6.out ((ji35) : Int) false)))); refine store_event (t := 4) (p := 63) (v := ?vo_w49) (w1 := (wr.setCell ⟨go46, ((ji35) : Int).toNat, none⟩ (.bool false))) ?hg ?ho ?hn ?hr ?_; (case ho => rfl); (case hg => rfl); (case hn => rfl); (case hr => first | (go_simp; done) | (go_simp; rfl)); intro w49 hw; have hg : wr.grownBy w49 (some go46) := (by rw [hw]; exact HP48.2); have hp_ : Kd.R Kd.bool 4 w49 w.heap.size (fun _ => True) (.slice (some ⟨go46, 0, none⟩) x6_1.length co47) y191 := (by rw [hw, Ny191.out]; exact HP48.1); clear HP48; have n0_ := Aside0.mk (hp_); have n1_ := Aside0.mk ((by rw [hw]; exact below_set (HB.out) GB46.out : Below w.heap.size w w49)); clear HO_6; clear HB; have HO_6 := n0_; have HB := n1_; clear n0_ n1_; clear hg hw hp_)))
                                    go_roundg k1
                                    case measure => have := HK1.out; omega
                                    case rel => exact ⟨(y191), (wrap64 (x7_1 + 1)), (by first | rfl | (simp; done) | (simp [*]; done)), H', ⟨by have := HK1.out; omega⟩, ⟨by (with_reducible repeat (first | apply Kd.R_alloc | apply Kd.R_drewN | apply Kd.R_drew)); exact HO_6.out⟩, ⟨by repeat (first | (with_reducible first | exact HB.out | apply below_alloc | apply pw_below_drewN | apply below_drew1) | exact HB.out)⟩⟩
                                  · replace c45 := Bool.eq_false_iff.mpr c45
                                    subst c45
                                    have H1 : (some (x7_1, false)) = some (r1, r2) := by rw [if_neg (show ¬ (false = true) by decide)] at H; exact H
                                    clear H
                                    have H := H1
                                    clear H1
                                    simp only [Option.some.injEq, Prod.mk.injEq] at H
                                    obtain ⟨rfl, rfl⟩ := H
                                    have p184 : 0 ≤ (x7_1 : Int) := of_decide_eq_true (by first | (with_reducible assumption) | assumption)
                                    have q184 : x7_1 < (l1.length : Int) := of_decide_eq_true (by first | (with_reducible assumption) | assumption)
                                    obtain ⟨ad184, e184, hx184_0⟩ := Kd.at_int HR1.out x7_1 p184 q184
                                    cases e184
                                    replace hx184_0 := (HB.out.cell (World.block_lt_of_cell? w _ hx184_0)).trans hx184_0
                                    replace p184 := eq_true p184
                                    replace q184 := eq_true q184
                                    obtain ⟨Ao50, co50, eo50⟩ := Kd.R_slice HO_6.out
                                    subst eo50
                                    have p189 : 0 ≤ ((ji35) : Int) := of_decide_eq_true (by first | (with_reducible assumption) | assumption)
                                    have q189 : (ji35) < (x6_1.length : Int) := of_decide_eq_true (by first | (with_reducible assumption) | assumption)
                                    obtain ⟨ad189, e189, hx189_0⟩ := Kd.at_bool (Kd.R_reads' HO_6.out).2.2 (ji35) p189 q189
                                    (try rw [← Nbq44.out] at hx189_0)
                                    cases e189
                                    replace p189 := eq_true p189
                                    replace q189 := eq_true q189
                                    have p190 : 0 ≤ ((ji41) : Int) := of_decide_eq_true (by first | (with_reducible assumption) | assumption)
                                    have q190 : (ji41) < (x6_1.length : Int) := of_decide_eq_true (by first | (with_reducible assumption) | assumption)
                                    obtain ⟨ad190, e190, hx190_0⟩ := Kd.at_bool (Kd.R_reads' HO_6.out).2.2 (ji41) p190 q190
                                    (try rw [← Nbq44.out] at hx190_0)
                                    obtain rfl : ad189 = ad190 := (by injection e190)
                                    replace p190 := eq_true p190
                                    replace q190 := eq_true q190
                                    go_wp2
                                    repeat (go_quiet (fail); try go_wp2)
                                    go_ret2
                                    exact ⟨by first | rfl | (simp [errW_none, errW_some] <;> rfl) | (simp only [← hji4, ← hji35, ← hji41]; first | rfl | (simp [errW_none, errW_some] <;> rfl)) | (simp [*, errW_none, errW_some] <;> rfl), by repeat (first | (with_reducible first | exact HB.out | apply below_alloc | apply pw_below_drewN | apply below_drew1) | exact HB.out)⟩
                                · rw [if_neg c43] at H
                                  exact absurd H (by simp)
                              · rw [if_neg c42] at H
                                exact absurd H (by simp)
                            · rw [if_neg c40] at H
                              have c40b0 : decide (1 < (ji35)) = false := decide_eq_false c40
                              clear c40
                              obtain ⟨y192, hy192⟩ : ∃ y_ : List Bool, y_ = (x6_1.set ((ji35) : Int).toNat false) := ⟨_, rfl⟩
                              replace H : (backstepref44_Legal.l0 k1 a0 l1 y192 (wrap64 (x7_1 + 1))) = some (r1, r2) := by first | (rw [hy192]; with_reducible exact H) | (have H2_ := (Option.bind_some _ _).symm.trans H; rw [hy192]; with_reducible exact H2_) | (have H2_ := (Option.bind_some _ _).symm.trans H; with_reducible exact H2_) | with_reducible exact H | (rw [hy192]; exact H) | exact H
                              have Ny192 := Aside0.mk hy192
                              clear hy192
                              have H' := Aside0.mk H
                              clear H
                              have p184 : 0 ≤ (x7_1 : Int) := of_decide_eq_true (by first | (with_reducible assumption) | assumption)
                              have q184 : x7_1 < (l1.length : Int) := of_decide_eq_true (by first | (with_reducible assumption) | assumption)
                              obtain ⟨ad184, e184, hx184_0⟩ := Kd.at_int HR1.out x7_1 p184 q184
                              cases e184
                              replace hx184_0 := (HB.out.cell (World.block_lt_of_cell? w _ hx184_0)).trans hx184_0
                              replace p184 := eq_true p184
                              replace q184 := eq_true q184
                              obtain ⟨Ao52, co52, eo52⟩ := Kd.R_slice HO_6.out
                              subst eo52
                              have p189 : 0 ≤ ((ji35) : Int) := of_decide_eq_true (by first | (with_reducible assumption) | assumption)
                              have q189 : (ji35) < (x6_1.length : Int) := of_decide_eq_true (by first | (with_reducible assumption) | assumption)
                              obtain ⟨ad189, e189, hx189_0⟩ := Kd.at_bool (Kd.R_reads' HO_6.out).2.2 (ji35) p189 q189
                              cases e189
                              replace p189 := eq_true p189
                              replace q189 := eq_true q189
                              have p51 : 0 ≤ ((ji35) : Int) := of_decide_eq_true (by first | (with_reducible assumption) | assumption)
                              have q51 : ((ji35) : Int) < ((x6_1.length : Int) : Int) := of_decide_eq_true (by first | (with_reducible assumption) | assumption)
                              obtain ⟨go51, co51, eo51, gb51, gl51, cl51, HG51⟩ := Kd.R_form HO_6.out (by omega)
                              (first | cases eo51 | (injection eo51 with ea_ en_ ec_; (first | subst ea_ | (injection ea_ with ea_; subst ea_)); subst ec_; clear en_))
                              have GB51 := Aside0.mk gb51
                              have GG51 := Aside0.mk HG51
                              clear gb51 gl51 HG51
                              (first | simp only [add_plain] at hx189_0 | skip)
                              (first | simp only [add_plain] at hx190_0 | skip)
                              obtain ⟨hx51_0, hf51_0⟩ := Kd.R_celln false HO_6.out ((ji35) : Int) p51 q51
                              replace p51 := eq_true p51
                              replace q51 := eq_true q51
                              have HP53 := Kd.R_putg HO_6.out ((ji35) : Int) false
                              go_wp2_with (first | ((with_reducible refine gate_store (t := 4) (p := 63) rfl ?_); (try (rw [drewN_self wr]; generalize hq_ : World.drewN wr _ = wr; have n0_ := Aside0.mk (Kd.R_at hq_ HO_6.out); have n1_ := Aside0.mk (below_at hq_ HB.out); clear hq_ HO_6 HB; have HO_6 := n0_; have HB := n1_; clear n0_ n1_; (try (have HP53 := Kd.R_putg HO_6.out ((ji35) : Int) false)))); refine store_event (t := 4) (p := 63) (v := ?vo_w54) (w1 := (wr.setCell ⟨go51, ((ji35) : Int).toNat, none⟩ (.bool false))) ?hg ?ho ?hn ?hr ?_; (case ho => rfl); (case hg => rfl); (case hn => rfl); (case hr => first | (go_simp; done) | (go_simp; rfl)); intro w54 hw; have hg : wr.grownBy w54 (some go51) := (by rw [hw]; exact HP53.2); have hp_ : Kd.R Kd.bool 4 w54 w.heap.size (fun _ => True) (.slice (some ⟨go51, 0, none⟩) x6_1.length co52) y192 := (by rw [hw, Ny192.out]; exact HP53.1); clear HP53; have n0_ := Aside0.mk (hp_); have n1_ := Aside0.mk ((by rw [hw]; exact below_set (HB.out) GB51.out : Below w.heap.size w w54)); clear HO_6; clear HB; have HO_6 := n0_; have HB := n1_; clear n0_ n1_; clear hg hw hp_))
                              repeat (go_quiet (first | ((with_reducible refine gate_store (t := 4) (p := 63) rfl ?_); (try (rw [drewN_self wr]; generalize hq_ : World.drewN wr _ = wr; have n0_ := Aside0.mk (Kd.R_at hq_ HO_6.out); have n1_ := Aside0.mk (below_at hq_ HB.out); clear hq_ HO_6 HB; have HO_6 := n0_; have HB := n1_; clear n0_ n1_; (try (have HP53 := Kd.R_putg HO_6.out ((ji35) : Int) false)))); refine store_event (t := 4) (p := 63) (v := ?vo_w54) (w1 := (wr.setCell ⟨go51, ((ji35) : Int).toNat, none⟩ (.bool false))) ?hg ?ho ?hn ?hr ?_; (case ho => rfl); (case hg => rfl); (case hn => rfl); (case hr => first | (go_simp; done) | (go_simp; rfl)); intro w54 hw; have hg : wr.grownBy w54 (some go51) := (by rw [hw]; exact HP53.2); have hp_ : Kd.R Kd.bool 4 w54 w.heap.size (fun _ => True) (.slice (some ⟨go51, 0, none⟩) x6_1.length co52) y192 := (by rw [hw, Ny192.out]; exact HP53.1); clear HP53; have n0_ := Aside0.mk (hp_); have n1_ := Aside0.mk ((by rw [hw]; exact below_set (HB.out) GB51.out : Below w.heap.size w w54)); clear HO_6; clear HB; have HO_6 := n0_; have HB := n1_; clear n0_ n1_; clear hg hw hp_)); try go_wp2_with (first | ((with_reducible refine gate_store (t := 4) (p := 63) rfl ?_); (try (rw [drewN_self wr]; generalize hq_ : World.drewN wr _ = wr; have n0_ := Aside0.mk (Kd.R_at hq_ HO_6.out); have n1_ := Aside0.mk (below_at hq_ HB.out); clear hq_ HO_6 HB; have HO_6 := n0_; have HB := n1_; clear n0_ n1_; (try (have HP53 := Kd.R_putg HO_6.out ((ji35) : Int) false)))); refine store_event (t := 4) (p := 63) (v := ?vo_w54) (w1 := (wr.setCell ⟨go51, ((ji35) : Int).toNat, none⟩ (.bool false))) ?hg ?ho ?hn ?hr ?_; (case ho => rfl); (case hg => rfl); (case hn => rfl); (case hr => first | (go_simp; done) | (go_simp; rfl)); intro w54 hw; have hg : wr.grownBy w54 (some go51) := (by rw [hw]; exact HP53.2); have hp_ : Kd.R Kd.bool 4 w54 w.heap.size (fun _ => True) (.slice (some ⟨go51, 0, none⟩) x6_1.length co52) y192 := (by rw [hw, Ny192.out]; exact HP53.1); clear HP53; have n0_ := Aside0.mk (hp_); have n1_ := Aside0.mk ((by rw [hw]; exact below_set (HB.out) GB51.out : Below w.heap.size w w54)); clear HO_6; clear HB; have HO_6 := n0_; have HB := n1_; clear n0_ n1_; clear hg hw hp_)))
                              go_roundg k1
                              case measure => have := HK1.out; omega
                              case rel => exact ⟨(y192), (wrap64 (x7_1 + 1)), (by first | rfl | (simp; done) | (simp [*]; done)), H', ⟨by have := HK1.out; omega⟩, ⟨by (with_reducible repeat (first | apply Kd.R_alloc | apply Kd.R_drewN | apply Kd.R_drew)); exact HO_6.out⟩, ⟨by repeat (first | (with_reducible first | exact HB.out | apply below_alloc | apply pw_below_drewN | apply below_drew1) | exact HB.out)⟩⟩
                        · rw [if_neg c37] at H
                          exact absurd H (by simp)
                      · rw [if_neg c36] at H
                        exact absurd H (by simp)
              · rw [if_neg c10] at H
                exact absurd H (by simp)
            · rw [if_neg c9] at H
              have c9b0 : decide (x7_1 < (l1.length : Int)) = false := decide_eq_false c9
              clear c9
              have H' := Aside0.mk H
              clear H
              go_wp2
              repeat (go_quiet (fail); try go_wp2)
              go_loopg [10] k1 (fun kq v10 w' => ∃ (x10_2 : Int), v10 = .int .i64 x10_2 ∧ Aside0 (backstepref44_Legal.l1 kq a0 l1 x6_1 x10_2 = some (r1, r2)) ∧ Aside0 (kq ≤ k1) ∧ Aside0 (Kd.R Kd.bool 4 w' w.heap.size (fun _ => True) v182 x6_1) ∧ Aside0 (Below w.heap.size w w'))
              case atStart => exact ⟨(1), (by first | rfl | (simp; done) | (simp [*]; done)), H', ⟨Nat.le_refl _⟩, ⟨by (with_reducible repeat (first | apply Kd.R_alloc | apply Kd.R_drewN | apply Kd.R_drew)); exact HO_6.out⟩, ⟨by repeat (first | (with_reducible first | exact HB.out | apply below_alloc | apply pw_below_drewN | apply below_drew1) | exact HB.out)⟩⟩
              case round =>
                clear H'
                try clear c1
                try clear p1
                try clear q1
                try clear hx1
                try clear c2
                try clear p2
                try clear q2
                try clear hx2
                try clear hf2
                try clear c3
                try clear c3b0
                try clear c4
                try clear p4
                try clear q4
                try clear hx4
                try clear hf4
                try clear c5
                try clear c5b0
                try clear c5b1
                try clear p5
                try clear q5
                try clear hx5
                try clear hf5
                try clear c6
                try clear c6b0
                try clear c6b1
                try clear p6
                try clear c9
                try clear c9b0
                try clear c10
                try clear c10b0
                try clear c11
                try clear c11b0
                try clear c12
                try clear c12b0
                try clear c13
                try clear c13b0
                try clear c14
                try clear c14b0
                try clear c15
                try clear c15b0
                try clear c16
                try clear c16b0
                try clear c16b1
                try clear c16b2
                try clear c18
                try clear c18b0
                try clear p18
                try clear q18
                try clear hx18
                try clear c19
                try clear p19
                try clear q19
                try clear hx19
                try clear c20
                try clear c20b0
                try clear c21
                try clear c21b0
                try clear q22
                try clear c23
                try clear p24
                try clear q24
                try clear hx24
                try clear hf24
                try clear p29
                try clear q29
                try clear hx29
                try clear hf29
                try clear c33
                try clear c33b0
                try clear c34
                try clear c34b0
                try clear c36
                try clear c36b0
                try clear c37
                try clear c37b0
                try clear c38
                try clear c38b0
                try clear c38b1
                try clear c38b2
                try clear c40
                try clear c40b0
                try clear c42
                try clear c42b0
                try clear c43
                try clear c43b0
                try clear q44
                try clear c45
                try clear p46
                try clear q46
                try clear hx46
                try clear hf46
                try clear p51
                try clear q51
                try clear hx51
                try clear hf51
                try clear hx184_0
                try clear hx185_0
                try clear hx186_0
                try clear hx189_0
                try clear hx190_0
                try clear hx24_0
                try clear hx29_0
                try clear hx46_0
                try clear hx51_0
                try clear p184
                try clear p185
                try clear p186
                try clear p189
                try clear p190
                try clear p2
                try clear p24
                try clear p29
                try clear p46
                try clear p51
                try clear p6
                try clear q184
                try clear q185
                try clear q186
                try clear q189
                try clear q190
                try clear q24
                try clear q29
                try clear q46
                try clear q51
                obtain ⟨x10_2, rfl, HA, HK2, HO_6, HB⟩ := hrel
                cases gk with
                | zero => exact absurd HA.out (by simp [backstepref44_Legal.l1])
                | succ k2 =>
                  have H := HA.out
                  clear HA
                  simp only [backstepref44_Legal.l1] at H
                  by_cases c55 : x10_2 < a0
                  · rw [if_pos c55] at H
                    have c55b0 : decide (x10_2 < a0) = true := decide_eq_true c55
                    clear c55
                    by_cases c56 : 0 ≤ x10_2
                    · rw [if_pos c56] at H
                      have c56b0 : decide (0 ≤ x10_2) = true := decide_eq_true c56
                      clear c56
                      by_cases c57 : x10_2 < (x6_1.length : Int)
                      · rw [if_pos c57] at H
                        have c57b0 : decide (x10_2 < (x6_1.length : Int)) = true := decide_eq_true c57
                        clear c57
                        obtain ⟨bq58, hbq58⟩ : ∃ b_ : Bool, b_ = (rdOf false x6_1 x10_2) := ⟨_, rfl⟩
                        replace H : (if bq58 = true then (some ((l1.length : Int), false)) else (backstepref44_Legal.l1 k2 a0 l1 x6_1 (wrap64 (x10_2 + 1)))) = some (r1, r2) := by rw [← hbq58] at H; exact H
                        have Nbq58 := Aside0.mk hbq58
                        clear hbq58
                        by_cases c59 : bq58 = true
                        · subst c59
                          have H1 : (some ((l1.length : Int), false)) = some (r1, r2) := by rw [if_pos rfl] at H; exact H
                          clear H
                          have H := H1
                          clear H1
                          simp only [Option.some.injEq, Prod.mk.injEq] at H
                          obtain ⟨rfl, rfl⟩ := H
                          obtain ⟨Ao60, co60, eo60⟩ := Kd.R_slice HO_6.out
                          subst eo60
                          have p193 : 0 ≤ (x10_2 : Int) := of_decide_eq_true (by first | (with_reducible assumption) | assumption)
                          have q193 : x10_2 < (x6_1.length : Int) := of_decide_eq_true (by first | (with_reducible assumption) | assumption)
                          obtain ⟨ad193, e193, hx193_0⟩ := Kd.at_bool (Kd.R_reads' HO_6.out).2.2 x10_2 p193 q193
                          (try rw [← Nbq58.out] at hx193_0)
                          cases e193
                          replace p193 := eq_true p193
                          replace q193 := eq_true q193
                          go_wp2
                          repeat (go_quiet (fail); try go_wp2)
                          go_ret2
                          exact ⟨by first | rfl | (simp [errW_none, errW_some] <;> rfl) | (simp only [← hji4]; first | rfl | (simp [errW_none, errW_some] <;> rfl)) | (simp [*, errW_none, errW_some] <;> rfl), by repeat (first | (with_reducible first | exact HB.out | apply below_alloc | apply pw_below_drewN | apply below_drew1) | exact HB.out)⟩
                        · replace c59 := Bool.eq_false_iff.mpr c59
                          subst c59
                          have H1 : (backstepref44_Legal.l1 k2 a0 l1 x6_1 (wrap64 (x10_2 + 1))) = some (r1, r2) := by rw [if_neg (show ¬ (false = true) by decide)] at H; exact H
                          clear H
                          have H := H1
                          clear H1
                          have H' := Aside0.mk H
                          clear H
                          obtain ⟨Ao61, co61, eo61⟩ := Kd.R_slice HO_6.out
                          subst eo61
                          have p193 : 0 ≤ (x10_2 : Int) := of_decide_eq_true (by first | (with_reducible assumption) | assumption)
                          have q193 : x10_2 < (x6_1.length : Int) := of_decide_eq_true (by first | (with_reducible assumption) | assumption)
                          obtain ⟨ad193, e193, hx193_0⟩ := Kd.at_bool (Kd.R_reads' HO_6.out).2.2 x10_2 p193 q193
                          (try rw [← Nbq58.out] at hx193_0)
                          cases e193
                          replace p193 := eq_true p193
                          replace q193 := eq_true q193
                          go_wp2
                          repeat (go_quiet (fail); try go_wp2)
                          go_roundg k2
                          case measure => have := HK1.out; have := HK2.out; omega
                          case rel => exact ⟨(wrap64 (x10_2 + 1)), (by first | rfl | (simp; done) | (simp [*]; done)), H', ⟨by have := HK1.out; have := HK2.out; omega⟩, ⟨by (with_reducible repeat (first | apply Kd.R_alloc | apply Kd.R_drewN | apply Kd.R_drew)); exact HO_6.out⟩, ⟨by repeat (first | (with_reducible first | exact HB.out | apply below_alloc | apply pw_below_drewN | apply below_drew1) | exact HB.out)⟩⟩
                      · rw [if_neg c57] at H
                        exact absurd H (by simp)
                    · rw [if_neg c56] at H
                      exact absurd H (by simp)
                  · rw [if_neg c55] at H
                    have c55b0 : decide (x10_2 < a0) = false := decide_eq_false c55
                    clear c55
                    by_cases c62 : 0 ≤ a0
                    · rw [if_pos c62] at H
                      have c62b0 : decide (0 ≤ a0) = true := decide_eq_true c62
                      clear c62
                      by_cases c63 : a0 < (x6_1.length : Int)
                      · rw [if_pos c63] at H
                        have c63b0 : decide (a0 < (x6_1.length : Int)) = true := decide_eq_true c63
                        clear c63
                        simp only [Option.some.injEq, Prod.mk.injEq] at H
                        obtain ⟨rfl, rfl⟩ := H
                        obtain ⟨Ao64, co64, eo64⟩ := Kd.R_slice HO_6.out
                        subst eo64
                        have p194 : 0 ≤ (a0 : Int) := of_decide_eq_true (by first | (with_reducible assumption) | assumption)
                        have q194 : a0 < (x6_1.length : Int) := of_decide_eq_true (by first | (with_reducible assumption) | assumption)
                        obtain ⟨ad194, e194, hx194_0⟩ := Kd.at_bool (Kd.R_reads' HO_6.out).2.2 a0 p194 q194
                        cases e194
                        replace p194 := eq_true p194
                        replace q194 := eq_true q194
                        go_wp2
                        repeat (go_quiet (fail); try go_wp2)
                        go_ret2
                        exact ⟨by first | rfl | (simp [errW_none, errW_some] <;> rfl) | (simp only [← hji4]; first | rfl | (simp [errW_none, errW_some] <;> rfl)) | (simp [*, errW_none, errW_some] <;> rfl), by repeat (first | (with_reducible first | exact HB.out | apply below_alloc | apply pw_below_drewN | apply below_drew1) | exact HB.out)⟩
                      · rw [if_neg c63] at H
                        exact absurd H (by simp)
                    · rw [if_neg c62] at H
                      exact absurd H (by simp)
      · rw [if_neg c6] at H
        exact absurd H (by simp)
    · rw [if_neg c5] at H
      exact absurd H (by simp)

end Go.Proofs.Ytpkamififbhheaa.PAll
