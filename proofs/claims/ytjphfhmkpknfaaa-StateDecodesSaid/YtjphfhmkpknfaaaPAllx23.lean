-- LAID BY A PROGRAM (wip/tprint.py) out of the translation. Nothing here is trusted.
import Derived.Test.YtjphfhmkpknfaaaPAllx0
namespace Go.Proofs.Ytjphfhmkpknfaaa.PAll
open Go.RowKit Go.Proofs.YtjphfhmkpknfaaaW.PrintWords Go.Proofs.YtjphfhmkpknfaaaW.PrintLast Go.Proofs.YtjphfhmkpknfaaaW.PrintMore
attribute [local go_sem] max2_int min2_int max_two min_two max_three min_three max_four min_four   -- for this text's walks alone
set_option linter.unusedVariables false
set_option linter.unusedSimpArgs false

-- NOT PRINTED: function 8 (backsteplaw10_StateEncodes)

/-! ### backstepref10_take: function 48 -/
mutual
def backstepref10_take.l0 : Nat → List Int → Int → List Int → Int → Option (List Int × List Int × Int)
  | 0, _, _, _, _ => none
  | k + 1, x0, x1, x7, x8 => if x8 < x1 then (if (x0.length : Int) < 8 then (some (([] : List Int), ([] : List Int), 4)) else (backstepref10_take.l1 k x0 x1 x7 x8 0 0)) else (some (x7, x0, 0))
def backstepref10_take.l1 : Nat → List Int → Int → List Int → Int → Int → Int → Option (List Int × List Int × Int)
  | 0, _, _, _, _, _, _ => none
  | k + 1, x0, x1, x7, x8, x9, x10 => if x10 < 8 then (if 0 ≤ x10 then (if x10 < (x0.length : Int) then (backstepref10_take.l1 k x0 x1 x7 x8 (Go.bits .or .u64 (IntKind.u64.wrap (x9 * 256)) (IntKind.u64.wrap (rd x0 x10))) (wrap64 (x10 + 1))) else (none)) else (none)) else (if x7.length < 17592186044416 then (if 8 ≤ (x0.length : Int) then (backstepref10_take.l0 k (x0.drop 8) x1 (x7 ++ [wrap64 (x9)]) (wrap64 (x8 + 1))) else (none)) else (none))
end
def backstepref10_take.f (k : Nat) (l0 : List Int) (a1 : Int) : Option (List Int × List Int × Int) := backstepref10_take.l0 k l0 a1 ([] : List Int) 0
theorem backstepref10_take.mono_l : ∀ k, (∀ y0 y1 y2 y3, LeO (backstepref10_take.l0 k y0 y1 y2 y3) (backstepref10_take.l0 (k + 1) y0 y1 y2 y3)) ∧ (∀ y0 y1 y2 y3 y4 y5, LeO (backstepref10_take.l1 k y0 y1 y2 y3 y4 y5) (backstepref10_take.l1 (k + 1) y0 y1 y2 y3 y4 y5))
  | 0 => ⟨fun _ _ _ _ r h => by simp [backstepref10_take.l0] at h, fun _ _ _ _ _ _ r h => by simp [backstepref10_take.l1] at h⟩
  | k + 1 => by
    obtain ⟨ih0, ih1⟩ := backstepref10_take.mono_l k
    refine ⟨?_, ?_⟩
    · intro y0 y1 y2 y3
      unfold backstepref10_take.l0
      repeat' first
      | (with_reducible exact ih0 _ _ _ _)
      | (with_reducible exact ih1 _ _ _ _ _ _)
      | (with_reducible exact LeO.refl _)
      | (with_reducible exact LeO.none _)
      | (with_reducible refine LeO.ite ?_ ?_)
      | (with_reducible refine LeO.bind ?_ (fun _ => ?_))
      | exact ih0 _ _ _ _
      | exact ih1 _ _ _ _ _ _
      | exact LeO.none _
      | refine LeO.ite ?_ ?_
      | refine LeO.bind ?_ (fun _ => ?_)
    · intro y0 y1 y2 y3 y4 y5
      unfold backstepref10_take.l1
      repeat' first
      | (with_reducible exact ih0 _ _ _ _)
      | (with_reducible exact ih1 _ _ _ _ _ _)
      | (with_reducible exact LeO.refl _)
      | (with_reducible exact LeO.none _)
      | (with_reducible refine LeO.ite ?_ ?_)
      | (with_reducible refine LeO.bind ?_ (fun _ => ?_))
      | exact ih0 _ _ _ _
      | exact ih1 _ _ _ _ _ _
      | exact LeO.none _
      | refine LeO.ite ?_ ?_
      | refine LeO.bind ?_ (fun _ => ?_)
theorem backstepref10_take.mono : ∀ a0 a1 k, LeO (backstepref10_take.f k a0 a1) (backstepref10_take.f (k + 1) a0 a1) := by
  intro a0 a1 k
  obtain ⟨ih0, ih1⟩ := backstepref10_take.mono_l k
  unfold backstepref10_take.f
  repeat' first
      | (with_reducible exact ih0 _ _ _ _)
      | (with_reducible exact ih1 _ _ _ _ _ _)
      | (with_reducible exact LeO.refl _)
      | (with_reducible exact LeO.none _)
      | (with_reducible refine LeO.ite ?_ ?_)
      | (with_reducible refine LeO.bind ?_ (fun _ => ?_))
      | exact ih0 _ _ _ _
      | exact ih1 _ _ _ _ _ _
      | exact LeO.none _
      | refine LeO.ite ?_ ?_
      | refine LeO.bind ?_ (fun _ => ?_)
set_option maxHeartbeats 8000000 in
set_option maxRecDepth 100000 in
theorem backstepref10_take.calls (k : Nat) (P0_ : Nat → Prop) (A0 : Option Addr) (c0 : Nat) (l0 : List Int) (a1 : Int) (r1 : List Int) (r2 : List Int) (r3 : Int) (w : World) (hs0 : Kd.V (Kd.int .u8) 5 w w.heap.size (fun k_ => P0_ k_) (.slice A0 l0.length c0) l0) (h : backstepref10_take.f k l0 a1 = some (r1, r2, r3)) :
    Calls Try.prog 48 #[.slice A0 l0.length c0, .int .i64 a1] w fun e w' => ∃ v0_ v1_ : Value, e = .returned (.tuple #[v0_, v1_, .int .i64 r3]) ∧ Kd.R (Kd.int .i64) 3 w' w.heap.size (fun k_ => (w.heap.size ≤ k_)) v0_ r1 ∧ Kd.V (Kd.int .u8) 5 w' w.heap.size (fun k_ => (P0_ k_ ∨ w.heap.size ≤ k_) ∧ some k_ ≠ (v0_ : Value).ownBlock) v1_ r2 ∧ Below w.heap.size w w' := by
  have HO0 := Aside0.mk (show Kd.V (Kd.int .u8) 5 w w.heap.size (fun k_ => (P0_ k_ ∨ w.heap.size ≤ k_)) (.slice A0 l0.length c0) l0 from Kd.V_mono hs0 (fun k_ hk => .inl hk))
  have HB := Aside0.mk (Below.refl w.heap.size w)
  have H : (backstepref10_take.l0 k l0 a1 ([] : List Int) 0) = some (r1, r2, r3) := h
  clear h
  have H' := Aside0.mk H
  clear H
  go_enter Try.func48, Try.ntmps48
  go_wp2
  go_loopg [0, 7, 8] k (fun kq v0 v7 v8 w' => ∃ (x0_1 : List Int) (x7_1 : List Int) (x8_1 : Int), v8 = .int .i64 x8_1 ∧ Aside0 (backstepref10_take.l0 kq x0_1 a1 x7_1 x8_1 = some (r1, r2, r3)) ∧ Aside0 (kq ≤ k) ∧ Aside0 (Kd.V (Kd.int .u8) 5 w' w.heap.size (fun k_ => (P0_ k_ ∨ w.heap.size ≤ k_) ∧ some k_ ≠ (v7 : Value).ownBlock) v0 x0_1) ∧ Aside0 (Kd.R (Kd.int .i64) 3 w' w.heap.size (fun k_ => (w.heap.size ≤ k_)) v7 x7_1) ∧ Aside0 (Below w.heap.size w w'))
  case atStart => exact ⟨(l0), (([] : List Int)), (0), (by first | rfl | (simp; done) | (simp [*]; done)), H', ⟨Nat.le_refl _⟩, ⟨by (with_reducible repeat (first | apply Kd.V_alloc | apply Kd.V_drewN | apply Kd.V_drew)); exact Kd.V_mono HO0.out (fun _ hk => ⟨hk, (by simp [Value.ownBlock])⟩)⟩, ⟨by first | exact Kd.R_nil _ _ _ _ _ | exact Kd.N_nil _ _ _ _ _ | exact Kd.V_nil _ _ _ _ _ | exact Kd.Q_nil _ _ _ _ _ | exact Kd.S_nil _ _ _ _ _⟩, ⟨by repeat (first | (with_reducible first | exact HB.out | apply below_alloc | apply pw_below_drewN | apply below_drew1) | exact HB.out)⟩⟩
  case round =>
    clear H'
    try clear p2
    obtain ⟨x0_1, x7_1, x8_1, rfl, HA, HK1, HO_0, HO_7, HB⟩ := hrel
    cases gk with
    | zero => exact absurd HA.out (by simp [backstepref10_take.l0])
    | succ k1 =>
      have H := HA.out
      clear HA
      simp only [backstepref10_take.l0] at H
      by_cases c3 : x8_1 < a1
      · rw [if_pos c3] at H
        have c3b0 : decide (x8_1 < a1) = true := decide_eq_true c3
        clear c3
        by_cases c4 : (x0_1.length : Int) < 8
        · rw [if_pos c4] at H
          have c4b0 : decide ((x0_1.length : Int) < 8) = true := decide_eq_true c4
          have c4b1 : decide (x0_1.length < 8) = true := decide_eq_true (by omega)
          clear c4
          simp only [Option.some.injEq, Prod.mk.injEq] at H
          obtain ⟨rfl, rfl, rfl⟩ := H
          obtain ⟨Ao5, co5, eo5⟩ := Kd.V_slice HO_0.out
          subst eo5
          go_wp2
          go_ret3
          exact ⟨_, _, by first | rfl | (simp [errW_none, errW_some] <;> rfl) | (simp [*, errW_none, errW_some] <;> rfl), by first | exact Kd.R_nil _ _ _ _ _ | exact Kd.N_nil _ _ _ _ _ | exact Kd.V_nil _ _ _ _ _ | exact Kd.Q_nil _ _ _ _ _ | exact Kd.S_nil _ _ _ _ _, Kd.V_nil _ _ _ _ _, by repeat (first | (with_reducible first | exact HB.out | apply below_alloc | apply pw_below_drewN | apply below_drew1) | exact HB.out)⟩
        · rw [if_neg c4] at H
          have c4b0 : decide ((x0_1.length : Int) < 8) = false := decide_eq_false c4
          have c4b1 : decide (x0_1.length < 8) = false := decide_eq_false (by omega)
          clear c4
          have H' := Aside0.mk H
          clear H
          obtain ⟨Ao6, co6, eo6⟩ := Kd.V_slice HO_0.out
          subst eo6
          go_wp2
          go_loopg [9, 10] k1 (fun kq v9 v10 w' => ∃ (x9_2 : Int) (x10_2 : Int), v9 = .int .u64 x9_2 ∧ v10 = .int .i64 x10_2 ∧ Aside0 (backstepref10_take.l1 kq x0_1 a1 x7_1 x8_1 x9_2 x10_2 = some (r1, r2, r3)) ∧ Aside0 (kq ≤ k1) ∧ Aside0 (Kd.V (Kd.int .u8) 5 w' w.heap.size (fun k_ => (P0_ k_ ∨ w.heap.size ≤ k_) ∧ some k_ ≠ (u7 : Value).ownBlock) (.slice Ao6 x0_1.length co6) x0_1) ∧ Aside0 (Kd.R (Kd.int .i64) 3 w' w.heap.size (fun k_ => (w.heap.size ≤ k_)) u7 x7_1) ∧ Aside0 (Below w.heap.size w w'))
          case atStart => exact ⟨(0), (0), (by first | rfl | (simp; done) | (simp [*]; done)), (by first | rfl | (simp; done) | (simp [*]; done)), H', ⟨Nat.le_refl _⟩, ⟨by (with_reducible repeat (first | apply Kd.V_alloc | apply Kd.V_drewN | apply Kd.V_drew)); exact HO_0.out⟩, ⟨by (with_reducible repeat (first | apply Kd.R_alloc | apply Kd.R_drewN | apply Kd.R_drew)); exact HO_7.out⟩, ⟨by repeat (first | (with_reducible first | exact HB.out | apply below_alloc | apply pw_below_drewN | apply below_drew1) | exact HB.out)⟩⟩
          case round =>
            clear H'
            try clear p2
            try clear c3
            try clear c3b0
            try clear c4
            try clear c4b0
            try clear c4b1
            try clear p2
            obtain ⟨x9_2, x10_2, rfl, rfl, HA, HK2, HO_0, HO_7, HB⟩ := hrel
            cases gk with
            | zero => exact absurd HA.out (by simp [backstepref10_take.l1])
            | succ k2 =>
              have H := HA.out
              clear HA
              simp only [backstepref10_take.l1] at H
              by_cases c7 : x10_2 < 8
              · rw [if_pos c7] at H
                have c7b0 : decide (x10_2 < 8) = true := decide_eq_true c7
                clear c7
                by_cases c8 : 0 ≤ x10_2
                · rw [if_pos c8] at H
                  have c8b0 : decide (0 ≤ x10_2) = true := decide_eq_true c8
                  clear c8
                  by_cases c9 : x10_2 < (x0_1.length : Int)
                  · rw [if_pos c9] at H
                    have c9b0 : decide (x10_2 < (x0_1.length : Int)) = true := decide_eq_true c9
                    clear c9
                    have H' := Aside0.mk H
                    clear H
                    have p456 : 0 ≤ (x10_2 : Int) := of_decide_eq_true (by first | (with_reducible assumption) | assumption)
                    have q456 : x10_2 < (x0_1.length : Int) := of_decide_eq_true (by first | (with_reducible assumption) | assumption)
                    obtain ⟨ad456, e456, hx456_0⟩ := Kd.at_int (Kd.V_reads' HO_0.out).2.2 x10_2 p456 q456
                    cases e456
                    replace p456 := eq_true p456
                    replace q456 := eq_true q456
                    go_wp2
                    go_roundg k2
                    case measure => have := HK1.out; have := HK2.out; omega
                    case rel => exact ⟨(Go.bits .or .u64 (IntKind.u64.wrap (x9_2 * 256)) (IntKind.u64.wrap (rd x0_1 x10_2))), (wrap64 (x10_2 + 1)), (by first | rfl | (simp; done) | (simp [*]; done)), (by first | rfl | (simp; done) | (simp [*]; done)), H', ⟨by have := HK1.out; have := HK2.out; omega⟩, ⟨by (with_reducible repeat (first | apply Kd.V_alloc | apply Kd.V_drewN | apply Kd.V_drew)); exact HO_0.out⟩, ⟨by (with_reducible repeat (first | apply Kd.R_alloc | apply Kd.R_drewN | apply Kd.R_drew)); exact HO_7.out⟩, ⟨by repeat (first | (with_reducible first | exact HB.out | apply below_alloc | apply pw_below_drewN | apply below_drew1) | exact HB.out)⟩⟩
                  · rw [if_neg c9] at H
                    exact absurd H (by simp)
                · rw [if_neg c8] at H
                  exact absurd H (by simp)
              · rw [if_neg c7] at H
                have c7b0 : decide (x10_2 < 8) = false := decide_eq_false c7
                clear c7
                by_cases c10 : x7_1.length < 17592186044416
                · rw [if_pos c10] at H
                  have LMc10 := Aside0.mk c10
                  clear c10
                  obtain ⟨y457, hy457⟩ : ∃ y_ : List Int, y_ = (x7_1 ++ [wrap64 (x9_2)]) := ⟨_, rfl⟩
                  replace H : (if 8 ≤ (x0_1.length : Int) then (backstepref10_take.l0 k2 (x0_1.drop 8) a1 y457 (wrap64 (x8_1 + 1))) else (none)) = some (r1, r2, r3) := by first | (rw [hy457]; with_reducible exact H) | (have H2_ := (Option.bind_some _ _).symm.trans H; rw [hy457]; with_reducible exact H2_) | (have H2_ := (Option.bind_some _ _).symm.trans H; with_reducible exact H2_) | with_reducible exact H | (rw [hy457]; exact H) | exact H
                  have Ny457 := Aside0.mk hy457
                  clear hy457
                  by_cases c11 : 8 ≤ (x0_1.length : Int)
                  · rw [if_pos c11] at H
                    have c11b0 := eq_true c11
                    have c11b1 : decide (8 ≤ (x0_1.length : Int)) = true := decide_eq_true c11
                    clear c11
                    obtain ⟨y460, hy460⟩ : ∃ y_ : List Int, y_ = (x0_1.drop 8) := ⟨_, rfl⟩
                    replace H : (backstepref10_take.l0 k2 y460 a1 y457 (wrap64 (x8_1 + 1))) = some (r1, r2, r3) := by first | (rw [hy460]; with_reducible exact H) | (have H2_ := (Option.bind_some _ _).symm.trans H; rw [hy460]; with_reducible exact H2_) | (have H2_ := (Option.bind_some _ _).symm.trans H; with_reducible exact H2_) | with_reducible exact H | (rw [hy460]; exact H) | exact H
                    have Ny460 := Aside0.mk hy460
                    clear hy460
                    have H' := Aside0.mk H
                    clear H
                    go_wp2_with (first | ((with_reducible refine gate_builtin (b := .append) (xs := #[.tmp 31, .tmp 34]) rfl ?_); at_builtin; refine Kd.R_append (Kd.int .i64) (w0 := w) w.heap.size rfl (.tmp 31) (.tmp 34) 23 3 (.int .i64 0) 8 rfl Try.underlying23 info3 rfl (by decide) (by omega) u7 x7_1 (wrap64 (x9_2)) [.int .i64 (wrap64 (x9_2))] (fun k_ => (w.heap.size ≤ k_)) (fun _ => False) rfl rfl ?aP (fun _ hk => hk.elim) ?aF ?aO ?aB ?aS ?aL ?_; (case aP => exact rfl); (case aB => exact (by repeat (first | (with_reducible first | exact HB.out | apply below_alloc | apply pw_below_drewN | apply below_drew1) | exact HB.out))); (case aF => exact (fun k_ hk => (Nat.le_trans (below_size (by repeat (first | (with_reducible first | exact HB.out | apply below_alloc | apply pw_below_drewN | apply below_drew1) | exact HB.out))) hk))); (case aO => exact (by (with_reducible repeat (first | apply Kd.R_alloc | apply Kd.R_drewN | apply Kd.R_drew)); exact HO_7.out)); (case aS => exact (below_size (by repeat (first | (with_reducible first | exact HB.out | apply below_alloc | apply pw_below_drewN | apply below_drew1) | exact HB.out)))); (case aL => have := LMc10.out; omega); intro v458 w12 ho hb hg hat; rw [← Ny457.out] at ho; have n0_ := Aside0.mk (Kd.V_afterv (ok := (fun k_ => (P0_ k_ ∨ w.heap.size ≤ k_))) (by (with_reducible repeat (first | apply Kd.V_alloc | apply Kd.V_drewN | apply Kd.V_drew)); exact HO_0.out) hg hat); have n1_ := Aside0.mk (hb); have n2_ := Aside0.mk (ho); clear HO_0; clear HB; clear HO_7; have HO_0 := n0_; have HB := n1_; have HO459 := n2_; clear n0_ n1_ n2_; clear ho hb hg hat; have q13 : (8 : Int) ≤ ((x0_1.length : Int) : Int) := of_decide_eq_true (by first | (with_reducible assumption) | assumption); obtain ⟨i013, hi013, _, hsz13, _⟩ := info_parts info5; have hroom13 : x0_1.length ≤ co6 := (Kd.V_reads' HO_0.out).2.1; have hC13 : Kd.F (Kd.int .u8) _ _ Ao6 x0_1.length x0_1 := (Kd.V_at (base := w.heap.size) HO_0.out).2.2; have hcut13 := cut_from (P := Try.prog) 47 5 .i64 Try.underlying47 hi013 1 hsz13 Ao6 x0_1.length co6 8 (by omega) q13; have hr13 := Kd.F_cut (m := (8 : Int).toNat) (c := co6) hC13 (by omega) hroom13; obtain ⟨A13, hA13⟩ : ∃ A1, A1 = (if co6 = (8 : Int).toNat then Ao6 else (Ao6 : Option Addr).map (·.add ((8 : Int).toNat * 1))) := ⟨_, rfl⟩; obtain ⟨c13, hc13⟩ : ∃ c1, c1 = co6 - (8 : Int).toNat := ⟨_, rfl⟩; have hy13 : y460.length = x0_1.length - (8 : Int).toNat := (by rw [Ny460.out, List.length_drop] <;> omega); rw [show (x0_1).drop (8 : Int).toNat = y460 from Ny460.out.symm] at hr13; replace hr13 : Kd.F (Kd.int .u8) _ _ A13 y460.length y460 := (by rw [hA13]; exact hr13); rw [← hy13, ← hA13, ← hc13] at hcut13; have HO464 := Aside0.mk (show Kd.V (Kd.int .u8) 5 _ w.heap.size _ (.slice A13 y460.length c13) y460 from Kd.V_mk (by rw [hy13, hc13]; exact Nat.sub_le_sub_right hroom13 _) hr13); have HC464 := Aside0.mk (show y460.length ≤ c13 from by rw [hy13, hc13]; exact Nat.sub_le_sub_right hroom13 _); clear hr13 hC13 hroom13 hi013 hsz13 hc13; have KY13 := Aside0.mk hy13; have KA13 := Aside0.mk hA13; clear hy13 hA13; replace q13 := eq_true q13))
                    go_roundg k2
                    case measure => have := HK1.out; have := HK2.out; omega
                    case rel => exact ⟨(y460), (y457), (wrap64 (x8_1 + 1)), (by first | rfl | (simp; done) | (simp [*]; done)), H', ⟨by have := HK1.out; have := HK2.out; omega⟩, ⟨by (with_reducible repeat (first | apply Kd.V_alloc | apply Kd.V_drewN | apply Kd.V_drew)); exact HO464.out⟩, ⟨by (with_reducible repeat (first | apply Kd.R_alloc | apply Kd.R_drewN | apply Kd.R_drew)); exact HO459.out⟩, ⟨by repeat (first | (with_reducible first | exact HB.out | apply below_alloc | apply pw_below_drewN | apply below_drew1) | exact HB.out)⟩⟩
                  · rw [if_neg c11] at H
                    exact absurd H (by simp)
                · rw [if_neg c10] at H
                  exact absurd H (by simp)
      · rw [if_neg c3] at H
        have c3b0 : decide (x8_1 < a1) = false := decide_eq_false c3
        clear c3
        simp only [Option.some.injEq, Prod.mk.injEq] at H
        obtain ⟨rfl, rfl, rfl⟩ := H
        go_wp2
        go_ret3
        exact ⟨_, _, by first | rfl | (simp [errW_none, errW_some] <;> rfl) | (simp [*, errW_none, errW_some] <;> rfl), by (with_reducible repeat (first | apply Kd.R_alloc | apply Kd.R_drewN | apply Kd.R_drew)); exact HO_7.out, by (with_reducible repeat (first | apply Kd.V_alloc | apply Kd.V_drewN | apply Kd.V_drew)); exact HO_0.out, by repeat (first | (with_reducible first | exact HB.out | apply below_alloc | apply pw_below_drewN | apply below_drew1) | exact HB.out)⟩

/-! ### backstepref10_counted: function 47 -/
def backstepref10_counted.f (k : Nat) (l0 : List Int) (a1 : Int) : Option (List Int × List Int × Int) := if (l0.length : Int) < 2 then (some (([] : List Int), ([] : List Int), 4)) else (if 0 < (l0.length : Int) then (if 1 < (l0.length : Int) then (if (wrap64 ((wrap64 ((wrap64 (rd l0 0)) * 256)) + (wrap64 (rd l0 1)))) > a1 then (some (([] : List Int), ([] : List Int), 5)) else (if 2 ≤ (l0.length : Int) then ((backstepref10_take.f k (l0.drop 2) (wrap64 ((wrap64 ((wrap64 (rd l0 0)) * 256)) + (wrap64 (rd l0 1))))).bind fun bt472 => (some (bt472.1, bt472.2.1, bt472.2.2))) else (none))) else (none)) else (none))
theorem backstepref10_counted.mono : ∀ a0 a1 k, LeO (backstepref10_counted.f k a0 a1) (backstepref10_counted.f (k + 1) a0 a1) := by
  intro a0 a1 k
  unfold backstepref10_counted.f
  repeat' first
      | (with_reducible exact backstepref10_take.mono _ _ _)
      | (with_reducible exact LeO.refl _)
      | (with_reducible exact LeO.none _)
      | (with_reducible refine LeO.ite ?_ ?_)
      | (with_reducible refine LeO.bind ?_ (fun _ => ?_))
      | exact backstepref10_take.mono _ _ _
      | exact LeO.none _
      | refine LeO.ite ?_ ?_
      | refine LeO.bind ?_ (fun _ => ?_)
set_option maxHeartbeats 8000000 in
set_option maxRecDepth 100000 in
theorem backstepref10_counted.calls (k : Nat) (P0_ : Nat → Prop) (A0 : Option Addr) (c0 : Nat) (l0 : List Int) (a1 : Int) (r1 : List Int) (r2 : List Int) (r3 : Int) (w : World) (hs0 : Kd.V (Kd.int .u8) 5 w w.heap.size (fun k_ => P0_ k_) (.slice A0 l0.length c0) l0) (h : backstepref10_counted.f k l0 a1 = some (r1, r2, r3)) :
    Calls Try.prog 47 #[.slice A0 l0.length c0, .int .i64 a1] w fun e w' => ∃ v0_ v1_ : Value, e = .returned (.tuple #[v0_, v1_, .int .i64 r3]) ∧ Kd.R (Kd.int .i64) 3 w' w.heap.size (fun k_ => (w.heap.size ≤ k_)) v0_ r1 ∧ Kd.V (Kd.int .u8) 5 w' w.heap.size (fun k_ => (P0_ k_ ∨ w.heap.size ≤ k_) ∧ some k_ ≠ (v0_ : Value).ownBlock) v1_ r2 ∧ Below w.heap.size w w' := by
  have HO0 := Aside0.mk (show Kd.V (Kd.int .u8) 5 w w.heap.size (fun k_ => (P0_ k_ ∨ w.heap.size ≤ k_)) (.slice A0 l0.length c0) l0 from Kd.V_mono hs0 (fun k_ hk => .inl hk))
  have HB := Aside0.mk (Below.refl w.heap.size w)
  have H : (if (l0.length : Int) < 2 then (some (([] : List Int), ([] : List Int), 4)) else (if 0 < (l0.length : Int) then (if 1 < (l0.length : Int) then (if (wrap64 ((wrap64 ((wrap64 (rd l0 0)) * 256)) + (wrap64 (rd l0 1)))) > a1 then (some (([] : List Int), ([] : List Int), 5)) else (if 2 ≤ (l0.length : Int) then ((backstepref10_take.f k (l0.drop 2) (wrap64 ((wrap64 ((wrap64 (rd l0 0)) * 256)) + (wrap64 (rd l0 1))))).bind fun bt472 => (some (bt472.1, bt472.2.1, bt472.2.2))) else (none))) else (none)) else (none))) = some (r1, r2, r3) := h
  clear h
  by_cases c3 : (l0.length : Int) < 2
  · rw [if_pos c3] at H
    have c3b0 : decide ((l0.length : Int) < 2) = true := decide_eq_true c3
    have c3b1 : decide (l0.length < 2) = true := decide_eq_true (by omega)
    clear c3
    simp only [Option.some.injEq, Prod.mk.injEq] at H
    obtain ⟨rfl, rfl, rfl⟩ := H
    go_enter Try.func47, Try.ntmps47
    go_wp2
    repeat (go_quiet (fail); try go_wp2)
    go_ret3
    exact ⟨_, _, by first | rfl | (simp [errW_none, errW_some] <;> rfl) | (simp [*, errW_none, errW_some] <;> rfl), by first | exact Kd.R_nil _ _ _ _ _ | exact Kd.N_nil _ _ _ _ _ | exact Kd.V_nil _ _ _ _ _ | exact Kd.Q_nil _ _ _ _ _ | exact Kd.S_nil _ _ _ _ _, Kd.V_nil _ _ _ _ _, by repeat (first | (with_reducible first | exact HB.out | apply below_alloc | apply pw_below_drewN | apply below_drew1) | exact HB.out)⟩
  · rw [if_neg c3] at H
    have c3b0 : decide ((l0.length : Int) < 2) = false := decide_eq_false c3
    have c3b1 : decide (l0.length < 2) = false := decide_eq_false (by omega)
    clear c3
    by_cases c4 : 0 < (l0.length : Int)
    · rw [if_pos c4] at H
      have c4b0 : decide (0 < (l0.length : Int)) = true := decide_eq_true c4
      have c4b1 : decide (0 < l0.length) = true := decide_eq_true (by omega)
      clear c4
      by_cases c5 : 1 < (l0.length : Int)
      · rw [if_pos c5] at H
        have c5b0 : decide (1 < (l0.length : Int)) = true := decide_eq_true c5
        have c5b1 : decide (1 < l0.length) = true := decide_eq_true (by omega)
        clear c5
        by_cases c6 : (wrap64 ((wrap64 ((wrap64 (rd l0 0)) * 256)) + (wrap64 (rd l0 1)))) > a1
        · rw [if_pos c6] at H
          have c6b0 : decide (a1 < (wrap64 ((wrap64 ((wrap64 (rd l0 0)) * 256)) + (wrap64 (rd l0 1))))) = true := decide_eq_true c6
          clear c6
          simp only [Option.some.injEq, Prod.mk.injEq] at H
          obtain ⟨rfl, rfl, rfl⟩ := H
          have p465 : 0 ≤ (0 : Int) := (by omega)
          have q465 : 0 < (l0.length : Int) := of_decide_eq_true (by first | (with_reducible assumption) | assumption)
          obtain ⟨ad465, e465, hx465_0⟩ := Kd.at_int (Kd.V_reads' HO0.out).2.2 0 p465 q465
          cases e465
          have qi465 : (0 < l0.length) = True := eq_true (by omega)
          (try rw [show ((0 : Int)).toNat = 0 from rfl] at hx465_0)
          (try rw [Addr.add_zero'] at hx465_0)
          replace p465 := eq_true p465
          replace q465 := eq_true q465
          have p466 : 0 ≤ (1 : Int) := (by omega)
          have q466 : 1 < (l0.length : Int) := of_decide_eq_true (by first | (with_reducible assumption) | assumption)
          obtain ⟨ad466, e466, hx466_0⟩ := Kd.at_int (Kd.V_reads' HO0.out).2.2 1 p466 q466
          obtain rfl : ad465 = ad466 := (by injection e466)
          (try simp only [show (1 : Int).toNat = 1 from rfl, Nat.reduceMul, Nat.reduceEqDiff, Go.Addr.add, ↓reduceIte] at hx466_0)
          have qi466 : (1 < l0.length) = True := eq_true (by omega)
          (try rw [show ((1 : Int)).toNat = 1 from rfl] at hx466_0)
          replace p466 := eq_true p466
          replace q466 := eq_true q466
          go_enter Try.func47, Try.ntmps47
          go_wp2
          repeat (go_quiet (fail); try go_wp2)
          go_ret3
          exact ⟨_, _, by first | rfl | (simp [errW_none, errW_some] <;> rfl) | (simp [*, errW_none, errW_some] <;> rfl), by first | exact Kd.R_nil _ _ _ _ _ | exact Kd.N_nil _ _ _ _ _ | exact Kd.V_nil _ _ _ _ _ | exact Kd.Q_nil _ _ _ _ _ | exact Kd.S_nil _ _ _ _ _, Kd.V_nil _ _ _ _ _, by repeat (first | (with_reducible first | exact HB.out | apply below_alloc | apply pw_below_drewN | apply below_drew1) | exact HB.out)⟩
        · rw [if_neg c6] at H
          have c6b0 : decide (a1 < (wrap64 ((wrap64 ((wrap64 (rd l0 0)) * 256)) + (wrap64 (rd l0 1))))) = false := decide_eq_false c6
          clear c6
          by_cases c7 : 2 ≤ (l0.length : Int)
          · rw [if_pos c7] at H
            have c7b0 := eq_true c7
            have c7b1 : decide (2 ≤ (l0.length : Int)) = true := decide_eq_true c7
            clear c7
            obtain ⟨y467, hy467⟩ : ∃ y_ : List Int, y_ = (l0.drop 2) := ⟨_, rfl⟩
            replace H : ((backstepref10_take.f k y467 (wrap64 ((wrap64 ((wrap64 (rd l0 0)) * 256)) + (wrap64 (rd l0 1))))).bind fun bt472 => (some (bt472.1, bt472.2.1, bt472.2.2))) = some (r1, r2, r3) := by first | (rw [hy467]; with_reducible exact H) | (have H2_ := (Option.bind_some _ _).symm.trans H; rw [hy467]; with_reducible exact H2_) | (have H2_ := (Option.bind_some _ _).symm.trans H; with_reducible exact H2_) | with_reducible exact H | (rw [hy467]; exact H) | exact H
            have Ny467 := Aside0.mk hy467
            clear hy467
            replace H := Option.bind_eq_some_iff.mp H
            obtain ⟨⟨t472, t475, t478⟩, A80, H⟩ := H
            replace H : (some (t472, t475, t478)) = some (r1, r2, r3) := H
            have A8 := Aside0.mk A80
            clear A80
            simp only [Option.some.injEq, Prod.mk.injEq] at H
            obtain ⟨rfl, rfl, rfl⟩ := H
            have p465 : 0 ≤ (0 : Int) := (by omega)
            have q465 : 0 < (l0.length : Int) := of_decide_eq_true (by first | (with_reducible assumption) | assumption)
            obtain ⟨ad465, e465, hx465_0⟩ := Kd.at_int (Kd.V_reads' HO0.out).2.2 0 p465 q465
            cases e465
            have qi465 : (0 < l0.length) = True := eq_true (by omega)
            (try rw [show ((0 : Int)).toNat = 0 from rfl] at hx465_0)
            (try rw [Addr.add_zero'] at hx465_0)
            replace p465 := eq_true p465
            replace q465 := eq_true q465
            have p466 : 0 ≤ (1 : Int) := (by omega)
            have q466 : 1 < (l0.length : Int) := of_decide_eq_true (by first | (with_reducible assumption) | assumption)
            obtain ⟨ad466, e466, hx466_0⟩ := Kd.at_int (Kd.V_reads' HO0.out).2.2 1 p466 q466
            obtain rfl : ad465 = ad466 := (by injection e466)
            (try simp only [show (1 : Int).toNat = 1 from rfl, Nat.reduceMul, Nat.reduceEqDiff, Go.Addr.add, ↓reduceIte] at hx466_0)
            have qi466 : (1 < l0.length) = True := eq_true (by omega)
            (try rw [show ((1 : Int)).toNat = 1 from rfl] at hx466_0)
            replace p466 := eq_true p466
            replace q466 := eq_true q466
            have q9 : (2 : Int) ≤ ((l0.length : Int) : Int) := of_decide_eq_true (by first | (with_reducible assumption) | assumption)
            obtain ⟨i09, hi09, _, hsz9, _⟩ := info_parts info5
            have hroom9 : l0.length ≤ c0 := (Kd.V_reads' HO0.out).2.1
            have hC9 : Kd.F (Kd.int .u8) _ _ (some ad465) l0.length l0 := (Kd.V_at (base := w.heap.size) HO0.out).2.2
            have hcut9 := cut_from (P := Try.prog) 47 5 .i64 Try.underlying47 hi09 1 hsz9 (some ad465) l0.length c0 2 (by omega) q9
            have hr9 := Kd.F_cut (m := (2 : Int).toNat) (c := c0) hC9 (by omega) hroom9
            obtain ⟨A9, hA9⟩ : ∃ A1, A1 = (if c0 = (2 : Int).toNat then (some ad465) else ((some ad465) : Option Addr).map (·.add ((2 : Int).toNat * 1))) := ⟨_, rfl⟩
            obtain ⟨c9, hc9⟩ : ∃ c1, c1 = c0 - (2 : Int).toNat := ⟨_, rfl⟩
            have hy9 : y467.length = l0.length - (2 : Int).toNat := (by rw [Ny467.out, List.length_drop] <;> omega)
            rw [show (l0).drop (2 : Int).toNat = y467 from Ny467.out.symm] at hr9
            replace hr9 : Kd.F (Kd.int .u8) _ _ A9 y467.length y467 := (by rw [hA9]; exact hr9)
            rw [← hy9, ← hA9, ← hc9] at hcut9
            have HO471 := Aside0.mk (show Kd.V (Kd.int .u8) 5 _ w.heap.size _ (.slice A9 y467.length c9) y467 from Kd.V_mk (by rw [hy9, hc9]; exact Nat.sub_le_sub_right hroom9 _) hr9)
            have HC471 := Aside0.mk (show y467.length ≤ c9 from by rw [hy9, hc9]; exact Nat.sub_le_sub_right hroom9 _)
            clear hr9 hC9 hroom9 hi09 hsz9 hc9
            have KY9 := Aside0.mk hy9
            have KA9 := Aside0.mk hA9
            clear hy9 hA9
            replace q9 := eq_true q9
            go_enter Try.func47, Try.ntmps47
            go_wp2_with (first | (go_at_call 48; (with_reducible refine (backstepref10_take.calls k (fun k_ => (P0_ k_ ∨ w.heap.size ≤ k_)) _ _ y467 (wrap64 ((wrap64 ((wrap64 (rd l0 0)) * 256)) + (wrap64 (rd l0 1)))) t472 t475 t478 _ ?side1 A8.out).mono ?_); (case side1 => exact HO471.out); rintro e w10 ⟨v473, v476, rfl, ho0, ho1, hb⟩; have n0_ := Aside0.mk (Kd.V_elder' (by (with_reducible repeat (first | apply Kd.V_alloc | apply Kd.V_drewN | apply Kd.V_drew)); exact HO0.out) (Kd.R_base ho0) hb); have n1_ := Aside0.mk (Kd.V_elder' (by (with_reducible repeat (first | apply Kd.V_alloc | apply Kd.V_drewN | apply Kd.V_drew)); exact HO471.out) (Kd.R_base ho0) hb); have n2_ := Aside0.mk (Kd.R_lower (Kd.R_newM (M := fun k_ => (w.heap.size ≤ k_)) (Kd.R_mono (ok' := fun k_ => True) ho0 (fun _ hk_ => trivial)) (below_size (by repeat (first | (with_reducible first | exact HB.out | apply below_alloc | apply pw_below_drewN | apply below_drew1) | exact HB.out))) (fun k_ h_ => h_)) (below_size (by repeat (first | (with_reducible first | exact HB.out | apply below_alloc | apply pw_below_drewN | apply below_drew1) | exact HB.out)))); have n3_ := Aside0.mk (Kd.V_lower (Kd.V_mono (ok' := fun k_ => (P0_ k_ ∨ w.heap.size ≤ k_) ∧ some k_ ≠ (v473 : Value).ownBlock) ho1 (fun k_ hk_ => ⟨Or.elim hk_.1 (fun hs_ => hs_) (fun hn_ => (.inr (Nat.le_trans (below_size (by repeat (first | (with_reducible first | exact HB.out | apply below_alloc | apply pw_below_drewN | apply below_drew1) | exact HB.out))) hn_))), hk_.2⟩)) (below_size (by repeat (first | (with_reducible first | exact HB.out | apply below_alloc | apply pw_below_drewN | apply below_drew1) | exact HB.out)))); have n4_ := Aside0.mk (below_step (by repeat (first | (with_reducible first | exact HB.out | apply below_alloc | apply pw_below_drewN | apply below_drew1) | exact HB.out)) hb); clear HO0; clear HO471; clear HB; have HO0 := n0_; have HO471 := n1_; have HO474 := n2_; have HO477 := n3_; have HB := n4_; clear n0_ n1_ n2_ n3_ n4_; (try clear hb); (try clear hb2); (try clear hk); (try clear hi); (try clear ho0); (try clear ho1)))
            repeat (go_quiet (first | (go_at_call 48; (with_reducible refine (backstepref10_take.calls k (fun k_ => (P0_ k_ ∨ w.heap.size ≤ k_)) _ _ y467 (wrap64 ((wrap64 ((wrap64 (rd l0 0)) * 256)) + (wrap64 (rd l0 1)))) t472 t475 t478 _ ?side1 A8.out).mono ?_); (case side1 => exact HO471.out); rintro e w10 ⟨v473, v476, rfl, ho0, ho1, hb⟩; have n0_ := Aside0.mk (Kd.V_elder' (by (with_reducible repeat (first | apply Kd.V_alloc | apply Kd.V_drewN | apply Kd.V_drew)); exact HO0.out) (Kd.R_base ho0) hb); have n1_ := Aside0.mk (Kd.V_elder' (by (with_reducible repeat (first | apply Kd.V_alloc | apply Kd.V_drewN | apply Kd.V_drew)); exact HO471.out) (Kd.R_base ho0) hb); have n2_ := Aside0.mk (Kd.R_lower (Kd.R_newM (M := fun k_ => (w.heap.size ≤ k_)) (Kd.R_mono (ok' := fun k_ => True) ho0 (fun _ hk_ => trivial)) (below_size (by repeat (first | (with_reducible first | exact HB.out | apply below_alloc | apply pw_below_drewN | apply below_drew1) | exact HB.out))) (fun k_ h_ => h_)) (below_size (by repeat (first | (with_reducible first | exact HB.out | apply below_alloc | apply pw_below_drewN | apply below_drew1) | exact HB.out)))); have n3_ := Aside0.mk (Kd.V_lower (Kd.V_mono (ok' := fun k_ => (P0_ k_ ∨ w.heap.size ≤ k_) ∧ some k_ ≠ (v473 : Value).ownBlock) ho1 (fun k_ hk_ => ⟨Or.elim hk_.1 (fun hs_ => hs_) (fun hn_ => (.inr (Nat.le_trans (below_size (by repeat (first | (with_reducible first | exact HB.out | apply below_alloc | apply pw_below_drewN | apply below_drew1) | exact HB.out))) hn_))), hk_.2⟩)) (below_size (by repeat (first | (with_reducible first | exact HB.out | apply below_alloc | apply pw_below_drewN | apply below_drew1) | exact HB.out)))); have n4_ := Aside0.mk (below_step (by repeat (first | (with_reducible first | exact HB.out | apply below_alloc | apply pw_below_drewN | apply below_drew1) | exact HB.out)) hb); clear HO0; clear HO471; clear HB; have HO0 := n0_; have HO471 := n1_; have HO474 := n2_; have HO477 := n3_; have HB := n4_; clear n0_ n1_ n2_ n3_ n4_; (try clear hb); (try clear hb2); (try clear hk); (try clear hi); (try clear ho0); (try clear ho1))); try go_wp2_with (first | (go_at_call 48; (with_reducible refine (backstepref10_take.calls k (fun k_ => (P0_ k_ ∨ w.heap.size ≤ k_)) _ _ y467 (wrap64 ((wrap64 ((wrap64 (rd l0 0)) * 256)) + (wrap64 (rd l0 1)))) t472 t475 t478 _ ?side1 A8.out).mono ?_); (case side1 => exact HO471.out); rintro e w10 ⟨v473, v476, rfl, ho0, ho1, hb⟩; have n0_ := Aside0.mk (Kd.V_elder' (by (with_reducible repeat (first | apply Kd.V_alloc | apply Kd.V_drewN | apply Kd.V_drew)); exact HO0.out) (Kd.R_base ho0) hb); have n1_ := Aside0.mk (Kd.V_elder' (by (with_reducible repeat (first | apply Kd.V_alloc | apply Kd.V_drewN | apply Kd.V_drew)); exact HO471.out) (Kd.R_base ho0) hb); have n2_ := Aside0.mk (Kd.R_lower (Kd.R_newM (M := fun k_ => (w.heap.size ≤ k_)) (Kd.R_mono (ok' := fun k_ => True) ho0 (fun _ hk_ => trivial)) (below_size (by repeat (first | (with_reducible first | exact HB.out | apply below_alloc | apply pw_below_drewN | apply below_drew1) | exact HB.out))) (fun k_ h_ => h_)) (below_size (by repeat (first | (with_reducible first | exact HB.out | apply below_alloc | apply pw_below_drewN | apply below_drew1) | exact HB.out)))); have n3_ := Aside0.mk (Kd.V_lower (Kd.V_mono (ok' := fun k_ => (P0_ k_ ∨ w.heap.size ≤ k_) ∧ some k_ ≠ (v473 : Value).ownBlock) ho1 (fun k_ hk_ => ⟨Or.elim hk_.1 (fun hs_ => hs_) (fun hn_ => (.inr (Nat.le_trans (below_size (by repeat (first | (with_reducible first | exact HB.out | apply below_alloc | apply pw_below_drewN | apply below_drew1) | exact HB.out))) hn_))), hk_.2⟩)) (below_size (by repeat (first | (with_reducible first | exact HB.out | apply below_alloc | apply pw_below_drewN | apply below_drew1) | exact HB.out)))); have n4_ := Aside0.mk (below_step (by repeat (first | (with_reducible first | exact HB.out | apply below_alloc | apply pw_below_drewN | apply below_drew1) | exact HB.out)) hb); clear HO0; clear HO471; clear HB; have HO0 := n0_; have HO471 := n1_; have HO474 := n2_; have HO477 := n3_; have HB := n4_; clear n0_ n1_ n2_ n3_ n4_; (try clear hb); (try clear hb2); (try clear hk); (try clear hi); (try clear ho0); (try clear ho1))))
            go_ret3
            exact ⟨_, _, by first | rfl | (simp [errW_none, errW_some] <;> rfl) | (simp [*, errW_none, errW_some] <;> rfl), by (with_reducible repeat (first | apply Kd.R_alloc | apply Kd.R_drewN | apply Kd.R_drew)); exact Kd.R_mono HO474.out (fun _ hk => hk.1), by (with_reducible repeat (first | apply Kd.V_alloc | apply Kd.V_drewN | apply Kd.V_drew)); exact HO477.out, by repeat (first | (with_reducible first | exact HB.out | apply below_alloc | apply pw_below_drewN | apply below_drew1) | exact HB.out)⟩
          · rw [if_neg c7] at H
            exact absurd H (by simp)
      · rw [if_neg c5] at H
        exact absurd H (by simp)
    · rw [if_neg c4] at H
      exact absurd H (by simp)

end Go.Proofs.Ytjphfhmkpknfaaa.PAll
