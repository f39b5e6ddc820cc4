-- LAID BY A PROGRAM (wip/tprint.py) out of the translation. Nothing here is trusted.
import Derived.Test.YtpkamififbhheaaPAllx0
import Derived.Test.YtpkamififbhheaaPAllx1
import Derived.Test.YtpkamififbhheaaBenC
import Derived.Test.YtpkamififbhheaaLeg
namespace Go.Proofs.Ytpkamififbhheaa.PAll
open Go.RowKit Go.Proofs.YtpkamififbhheaaW.PrintWords Go.Proofs.YtpkamififbhheaaW.PrintLast Go.Proofs.YtpkamififbhheaaW.PrintMore
attribute [local go_sem] max2_int min2_int max_two min_two max_three min_three max_four min_four   -- for this text's walks alone
set_option linter.unusedVariables false
set_option linter.unusedSimpArgs false

/-! ### backsteplaw44_PebbleComplete: function 7 -/
def backsteplaw44_PebbleComplete.l0 : Nat → Int → Int → List Int → Int → Int → Bool → Int → Int → Option (Bool)
  | 0, _, _, _, _, _, _, _, _ => none
  | k + 1, x5, x6, x7, x8, x9, x10, x11, x12 => if x12 < x5 then (backsteplaw44_PebbleComplete.l0 k x5 x6 x7 x8 x9 x10 (wrap64 (x11 + 1)) (wrap64 (x12 * x6))) else (if x8 = 0 then (if x10 = true then (if x9 = (x7.length : Int) then ((pebble_Peak.f k x7).bind fun t179 => (some (decide (t179 ≤ (wrap64 ((wrap64 (x11 * (wrap64 (x6 - 1)))) + 1)))))) else (some false)) else (some false)) else (some false))
def backsteplaw44_PebbleComplete.f (k : Nat) (a0 : Int) (a1 : Int) : Option (Bool) := (backsteplaw44_awake.f k).bind fun t172 => (if t172 = true then ((pebble_Bennett.f (wrap64 (1 + (Int.tmod (wrap64 (a0)) 300))) (wrap64 (2 + (Int.tmod (wrap64 (a1)) 60)))).bind fun bt173 => ((pebble_Legal.f (wrap64 (1 + (Int.tmod (wrap64 (a0)) 300))) bt173.1).bind fun bt177 => (backsteplaw44_PebbleComplete.l0 k (wrap64 (1 + (Int.tmod (wrap64 (a0)) 300))) (wrap64 (2 + (Int.tmod (wrap64 (a1)) 60))) bt173.1 bt173.2 bt177.1 bt177.2 0 1))) else (some false))
theorem backsteplaw44_PebbleComplete.mono_l : ∀ k, (∀ y0 y1 y2 y3 y4 y5 y6 y7, LeO (backsteplaw44_PebbleComplete.l0 k y0 y1 y2 y3 y4 y5 y6 y7) (backsteplaw44_PebbleComplete.l0 (k + 1) y0 y1 y2 y3 y4 y5 y6 y7))
  | 0 => fun _ _ _ _ _ _ _ _ r h => by simp [backsteplaw44_PebbleComplete.l0] at h
  | k + 1 => by
    have ih0 := backsteplaw44_PebbleComplete.mono_l k
    · intro y0 y1 y2 y3 y4 y5 y6 y7
      unfold backsteplaw44_PebbleComplete.l0
      repeat' first
      | (with_reducible exact ih0 _ _ _ _ _ _ _ _)
      | (with_reducible exact backsteplaw44_awake.mono _)
      | (with_reducible exact pebble_Peak.mono _ _)
      | (with_reducible exact LeO.refl _)
      | (with_reducible exact LeO.none _)
      | (with_reducible refine LeO.ite ?_ ?_)
      | (with_reducible refine LeO.bind ?_ (fun _ => ?_))
      | exact ih0 _ _ _ _ _ _ _ _
      | exact backsteplaw44_awake.mono _
      | exact pebble_Peak.mono _ _
      | exact LeO.none _
      | refine LeO.ite ?_ ?_
      | refine LeO.bind ?_ (fun _ => ?_)
theorem backsteplaw44_PebbleComplete.mono : ∀ a0 a1 k, LeO (backsteplaw44_PebbleComplete.f k a0 a1) (backsteplaw44_PebbleComplete.f (k + 1) a0 a1) := by
  intro a0 a1 k
  have ih0 := backsteplaw44_PebbleComplete.mono_l k
  unfold backsteplaw44_PebbleComplete.f
  repeat' first
      | (with_reducible exact ih0 _ _ _ _ _ _ _ _)
      | (with_reducible exact backsteplaw44_awake.mono _)
      | (with_reducible exact pebble_Peak.mono _ _)
      | (with_reducible exact LeO.refl _)
      | (with_reducible exact LeO.none _)
      | (with_reducible refine LeO.ite ?_ ?_)
      | (with_reducible refine LeO.bind ?_ (fun _ => ?_))
      | exact ih0 _ _ _ _ _ _ _ _
      | exact backsteplaw44_awake.mono _
      | exact pebble_Peak.mono _ _
      | exact LeO.none _
      | refine LeO.ite ?_ ?_
      | refine LeO.bind ?_ (fun _ => ?_)
set_option maxHeartbeats 8000000 in
set_option maxRecDepth 100000 in
theorem backsteplaw44_PebbleComplete.calls (k : Nat) (a0 : Int) (a1 : Int) (r : Bool) (w : World) (h : backsteplaw44_PebbleComplete.f k a0 a1 = some r) :
    Calls Try.prog 7 #[.int .u16 a0, .int .u16 a1] w fun e w' => e = .returned (.bool r) ∧ Below w.heap.size w w' := by
  have HB := Aside0.mk (Below.refl w.heap.size w)
  have H : ((backsteplaw44_awake.f k).bind fun t172 => (if t172 = true then ((pebble_Bennett.f (wrap64 (1 + (Int.tmod (wrap64 (a0)) 300))) (wrap64 (2 + (Int.tmod (wrap64 (a1)) 60)))).bind fun bt173 => ((pebble_Legal.f (wrap64 (1 + (Int.tmod (wrap64 (a0)) 300))) bt173.1).bind fun bt177 => (backsteplaw44_PebbleComplete.l0 k (wrap64 (1 + (Int.tmod (wrap64 (a0)) 300))) (wrap64 (2 + (Int.tmod (wrap64 (a1)) 60))) bt173.1 bt173.2 bt177.1 bt177.2 0 1))) else (some false))) = some r := h
  clear h
  replace H := Option.bind_eq_some_iff.mp H
  obtain ⟨t172, A30, H⟩ := H
  replace H : (if t172 = true then ((pebble_Bennett.f (wrap64 (1 + (Int.tmod (wrap64 (a0)) 300))) (wrap64 (2 + (Int.tmod (wrap64 (a1)) 60)))).bind fun bt173 => ((pebble_Legal.f (wrap64 (1 + (Int.tmod (wrap64 (a0)) 300))) bt173.1).bind fun bt177 => (backsteplaw44_PebbleComplete.l0 k (wrap64 (1 + (Int.tmod (wrap64 (a0)) 300))) (wrap64 (2 + (Int.tmod (wrap64 (a1)) 60))) bt173.1 bt173.2 bt177.1 bt177.2 0 1))) else (some false)) = some r := H
  have A3 := Aside0.mk A30
  clear A30
  by_cases c4 : t172 = true
  · subst c4
    have H1 : ((pebble_Bennett.f (wrap64 (1 + (Int.tmod (wrap64 (a0)) 300))) (wrap64 (2 + (Int.tmod (wrap64 (a1)) 60)))).bind fun bt173 => ((pebble_Legal.f (wrap64 (1 + (Int.tmod (wrap64 (a0)) 300))) bt173.1).bind fun bt177 => (backsteplaw44_PebbleComplete.l0 k (wrap64 (1 + (Int.tmod (wrap64 (a0)) 300))) (wrap64 (2 + (Int.tmod (wrap64 (a1)) 60))) bt173.1 bt173.2 bt177.1 bt177.2 0 1))) = some r := by rw [if_pos rfl] at H; exact H
    clear H
    have H := H1
    clear H1
    replace H := Option.bind_eq_some_iff.mp H
    obtain ⟨⟨t173, t174⟩, A50, H⟩ := H
    replace H : ((pebble_Legal.f (wrap64 (1 + (Int.tmod (wrap64 (a0)) 300))) t173).bind fun bt177 => (backsteplaw44_PebbleComplete.l0 k (wrap64 (1 + (Int.tmod (wrap64 (a0)) 300))) (wrap64 (2 + (Int.tmod (wrap64 (a1)) 60))) t173 t174 bt177.1 bt177.2 0 1)) = some r := H
    have A5 := Aside0.mk A50
    clear A50
    replace H := Option.bind_eq_some_iff.mp H
    obtain ⟨⟨t177, t178⟩, A60, H⟩ := H
    replace H : (backsteplaw44_PebbleComplete.l0 k (wrap64 (1 + (Int.tmod (wrap64 (a0)) 300))) (wrap64 (2 + (Int.tmod (wrap64 (a1)) 60))) t173 t174 t177 t178 0 1) = some r := H
    have A6 := Aside0.mk A60
    clear A60
    have H' := Aside0.mk H
    clear H
    go_enter Try.func7, Try.ntmps7
    go_wp2_with (first | ((with_reducible refine gate_callee (f := 11) rfl ?_); refine goesL_ (some 13) rfl rfl Try.func11 (by kernel_rfl) rfl #[] rfl (by (try simp only [List.map_toArray, List.map_cons, List.map_nil]); first | done | rfl | (simp only [List.length_drop, List.length_take]; rfl)) ?_; (with_reducible refine (backsteplaw44_awake.calls k  true _ A3.out).mono ?_); rintro e w7 ⟨rfl, hb⟩; refine ⟨_, rfl, ?_⟩; have n0_ := Aside0.mk (below_step (by repeat (first | (with_reducible first | exact HB.out | apply below_alloc | apply pw_below_drewN | apply below_drew1) | exact HB.out)) hb); clear HB; have HB := n0_; clear n0_; (try clear hb); (try clear hb2); (try clear hk); (try clear hi)) | ((with_reducible refine gate_callee (f := 12) rfl ?_); refine goesL_ (some 26) rfl rfl Try.func12 (by kernel_rfl) rfl #[.int .i64 (wrap64 (1 + (Int.tmod (wrap64 (a0)) 300))), .int .i64 (wrap64 (2 + (Int.tmod (wrap64 (a1)) 60)))] rfl (by (try simp only [List.map_toArray, List.map_cons, List.map_nil]); first | done | rfl | (simp only [List.length_drop, List.length_take]; rfl)) ?_; (with_reducible refine (pebble_Bennett.calls (wrap64 (1 + (Int.tmod (wrap64 (a0)) 300))) (wrap64 (2 + (Int.tmod (wrap64 (a1)) 60))) t173 t174 _ A5.out).mono ?_); rintro e w8 ⟨v175, rfl, ho0, hb⟩; refine ⟨_, rfl, ?_⟩; have n0_ := Aside0.mk (Kd.R_lower ho0 (below_size (by repeat (first | (with_reducible first | exact HB.out | apply below_alloc | apply pw_below_drewN | apply below_drew1) | exact HB.out)))); have n1_ := Aside0.mk (below_step (by repeat (first | (with_reducible first | exact HB.out | apply below_alloc | apply pw_below_drewN | apply below_drew1) | exact HB.out)) hb); clear HB; have HO176 := n0_; have HB := n1_; clear n0_ n1_; (try clear hb); (try clear hb2); (try clear hk); (try clear hi); (try clear ho0); obtain ⟨Ao9, co9, eo9⟩ := Kd.R_slice HO176.out; subst eo9) | ((with_reducible refine gate_callee (f := 18) rfl ?_); refine goesL_ (some 32) rfl rfl Try.func18 (by kernel_rfl) rfl #[.int .i64 (wrap64 (1 + (Int.tmod (wrap64 (a0)) 300))), .slice Ao9 t173.length co9] rfl (by (try simp only [List.map_toArray, List.map_cons, List.map_nil]); first | done | rfl | (simp only [List.length_drop, List.length_take]; rfl)) ?_; (with_reducible refine (pebble_Legal.calls (wrap64 (1 + (Int.tmod (wrap64 (a0)) 300))) _ _ t173 t177 t178 _ ?side1 ?side2 A6.out).mono ?_); (case side1 => repeat (first | exact (Kd.R_reads' HO176.out).2.2 | (with_reducible refine Kd.C_alloc ?_ _) | (with_reducible refine Kd.C_drewN ?_ _) | (with_reducible refine Kd.C_drew ?_))); (case side2 => exact (Kd.R_reads' HO176.out).2.1); rintro e w10 ⟨rfl, hb⟩; refine ⟨_, rfl, ?_⟩; have n0_ := Aside0.mk (Kd.R_below (by (with_reducible repeat (first | apply Kd.R_alloc | apply Kd.R_drewN | apply Kd.R_drew)); exact HO176.out) hb); have n1_ := Aside0.mk (below_step (by repeat (first | (with_reducible first | exact HB.out | apply below_alloc | apply pw_below_drewN | apply below_drew1) | exact HB.out)) hb); clear HO176; clear HB; have HO176 := n0_; have HB := n1_; clear n0_ n1_; (try clear hb); (try clear hb2); (try clear hk); (try clear hi)))
    go_loopg [11, 12] k (fun kq v11 v12 w' => ∃ (x11_1 : Int) (x12_1 : Int), v11 = .int .i64 x11_1 ∧ v12 = .int .i64 x12_1 ∧ Aside0 (backsteplaw44_PebbleComplete.l0 kq (wrap64 (1 + (Int.tmod (wrap64 (a0)) 300))) (wrap64 (2 + (Int.tmod (wrap64 (a1)) 60))) t173 t174 t177 t178 x11_1 x12_1 = some r) ∧ Aside0 (kq ≤ k) ∧ Aside0 (Kd.R (Kd.int .i64) 3 w' w.heap.size (fun _ => True) (.slice Ao9 t173.length co9) t173) ∧ Aside0 (Below w.heap.size w w'))
    case atStart => exact ⟨(0), (1), (by first | rfl | (simp; done) | (simp [*]; done)), (by first | rfl | (simp; done) | (simp [*]; done)), H', ⟨Nat.le_refl _⟩, ⟨by (with_reducible repeat (first | apply Kd.R_alloc | apply Kd.R_drewN | apply Kd.R_drew)); exact HO176.out⟩, ⟨by repeat (first | (with_reducible first | exact HB.out | apply below_alloc | apply pw_below_drewN | apply below_drew1) | exact HB.out)⟩⟩
    case round =>
      clear H'
      try clear c1
      try clear p2
      try clear c4
      try clear p6
      try clear c7
      obtain ⟨x11_1, x12_1, rfl, rfl, HA, HK1, HO_7, HB⟩ := hrel
      cases gk with
      | zero => exact absurd HA.out (by simp [backsteplaw44_PebbleComplete.l0])
      | succ k1 =>
        have H := HA.out
        clear HA
        simp only [backsteplaw44_PebbleComplete.l0] at H
        by_cases c11 : x12_1 < (wrap64 (1 + (Int.tmod (wrap64 (a0)) 300)))
        · rw [if_pos c11] at H
          have c11b0 : decide (x12_1 < (wrap64 (1 + (Int.tmod (wrap64 (a0)) 300)))) = true := decide_eq_true c11
          clear c11
          have H' := Aside0.mk H
          clear H
          go_wp2
          go_roundg k1
          case measure => have := HK1.out; omega
          case rel => exact ⟨(wrap64 (x11_1 + 1)), (wrap64 (x12_1 * (wrap64 (2 + (Int.tmod (wrap64 (a1)) 60))))), (by first | rfl | (simp; done) | (simp [*]; done)), (by first | rfl | (simp; done) | (simp [*]; done)), H', ⟨by have := HK1.out; omega⟩, ⟨by (with_reducible repeat (first | apply Kd.R_alloc | apply Kd.R_drewN | apply Kd.R_drew)); exact HO_7.out⟩, ⟨by repeat (first | (with_reducible first | exact HB.out | apply below_alloc | apply pw_below_drewN | apply below_drew1) | exact HB.out)⟩⟩
        · rw [if_neg c11] at H
          have c11b0 : decide (x12_1 < (wrap64 (1 + (Int.tmod (wrap64 (a0)) 300)))) = false := decide_eq_false c11
          clear c11
          by_cases c12 : t174 = 0
          · rw [if_pos c12] at H
            have c12b0 : (t174 == 0) = true := beq_iff_eq.mpr c12
            have c12b1 : (t174 != 0) = false := bne_eq_false_iff_eq.mpr c12
            clear c12
            by_cases c13 : t178 = true
            · subst c13
              have H1 : (if t177 = (t173.length : Int) then ((pebble_Peak.f k1 t173).bind fun t179 => (some (decide (t179 ≤ (wrap64 ((wrap64 (x11_1 * (wrap64 ((wrap64 (2 + (Int.tmod (wrap64 (a1)) 60))) - 1)))) + 1)))))) else (some false)) = some r := by rw [if_pos rfl] at H; exact H
              clear H
              have H := H1
              clear H1
              by_cases c14 : t177 = (t173.length : Int)
              · rw [if_pos c14] at H
                have c14b0 : (t177 == (t173.length : Int)) = true := beq_iff_eq.mpr c14
                have c14b1 : (t177 != (t173.length : Int)) = false := bne_eq_false_iff_eq.mpr c14
                clear c14
                replace H := Option.bind_eq_some_iff.mp H
                obtain ⟨t179, A150, H⟩ := H
                replace H : (some (decide (t179 ≤ (wrap64 ((wrap64 (x11_1 * (wrap64 ((wrap64 (2 + (Int.tmod (wrap64 (a1)) 60))) - 1)))) + 1))))) = some r := H
                have A15 := Aside0.mk A150
                clear A150
                obtain rfl := Option.some.inj H
                go_wp2_with (first | (go_at_call 20; (with_reducible refine (pebble_Peak.calls k1 _ _ t173 t179 _ ?side1 ?side2 A15.out).mono ?_); (case side1 => repeat (first | exact (Kd.R_reads' HO_7.out).2.2 | (with_reducible refine Kd.C_alloc ?_ _) | (with_reducible refine Kd.C_drewN ?_ _) | (with_reducible refine Kd.C_drew ?_))); (case side2 => exact (Kd.R_reads' HO_7.out).2.1); rintro e w16 ⟨rfl, hb⟩; have n0_ := Aside0.mk (Kd.R_below (by (with_reducible repeat (first | apply Kd.R_alloc | apply Kd.R_drewN | apply Kd.R_drew)); exact HO_7.out) hb); have n1_ := Aside0.mk (below_step (by repeat (first | (with_reducible first | exact HB.out | apply below_alloc | apply pw_below_drewN | apply below_drew1) | exact HB.out)) hb); clear HO_7; clear HB; have HO_7 := n0_; have HB := n1_; clear n0_ n1_; (try clear hb); (try clear hb2); (try clear hk); (try clear hi)))
                go_ret
                exact ⟨by first | rfl | (simp [errW_none, errW_some] <;> rfl) | (simp [*, errW_none, errW_some] <;> rfl), by repeat (first | (with_reducible first | exact HB.out | apply below_alloc | apply pw_below_drewN | apply below_drew1) | exact HB.out)⟩
              · rw [if_neg c14] at H
                have c14b0 : (t177 == (t173.length : Int)) = false := beq_eq_false_iff_ne.mpr c14
                have c14b1 : (t177 != (t173.length : Int)) = true := bne_iff_ne.mpr c14
                obtain rfl := Option.some.inj H
                go_wp2
                go_ret
                exact ⟨by first | rfl | (simp [errW_none, errW_some] <;> rfl) | (simp [*, errW_none, errW_some] <;> rfl), by repeat (first | (with_reducible first | exact HB.out | apply below_alloc | apply pw_below_drewN | apply below_drew1) | exact HB.out)⟩
            · replace c13 := Bool.eq_false_iff.mpr c13
              subst c13
              have H1 : (some false) = some r := by rw [if_neg (show ¬ (false = true) by decide)] at H; exact H
              clear H
              have H := H1
              clear H1
              obtain rfl := Option.some.inj H
              go_wp2
              go_ret
              exact ⟨by first | rfl | (simp [errW_none, errW_some] <;> rfl) | (simp [*, errW_none, errW_some] <;> rfl), by repeat (first | (with_reducible first | exact HB.out | apply below_alloc | apply pw_below_drewN | apply below_drew1) | exact HB.out)⟩
          · rw [if_neg c12] at H
            have c12b0 : (t174 == 0) = false := beq_eq_false_iff_ne.mpr c12
            have c12b1 : (t174 != 0) = true := bne_iff_ne.mpr c12
            obtain rfl := Option.some.inj H
            go_wp2
            go_ret
            exact ⟨by first | rfl | (simp [errW_none, errW_some] <;> rfl) | (simp [*, errW_none, errW_some] <;> rfl), by repeat (first | (with_reducible first | exact HB.out | apply below_alloc | apply pw_below_drewN | apply below_drew1) | exact HB.out)⟩
  · replace c4 := Bool.eq_false_iff.mpr c4
    subst c4
    have H1 : (some false) = some r := by rw [if_neg (show ¬ (false = true) by decide)] at H; exact H
    clear H
    have H := H1
    clear H1
    obtain rfl := Option.some.inj H
    go_enter Try.func7, Try.ntmps7
    go_wp2_with (first | ((with_reducible refine gate_callee (f := 11) rfl ?_); refine goesL_ (some 13) rfl rfl Try.func11 (by kernel_rfl) rfl #[] rfl (by (try simp only [List.map_toArray, List.map_cons, List.map_nil]); first | done | rfl | (simp only [List.length_drop, List.length_take]; rfl)) ?_; (with_reducible refine (backsteplaw44_awake.calls k  false _ A3.out).mono ?_); rintro e w17 ⟨rfl, hb⟩; refine ⟨_, rfl, ?_⟩; have n0_ := Aside0.mk (below_step (by repeat (first | (with_reducible first | exact HB.out | apply below_alloc | apply pw_below_drewN | apply below_drew1) | exact HB.out)) hb); clear HB; have HB := n0_; clear n0_; (try clear hb); (try clear hb2); (try clear hk); (try clear hi)))
    go_ret
    exact ⟨by first | rfl | (simp [errW_none, errW_some] <;> rfl) | (simp [*, errW_none, errW_some] <;> rfl), by repeat (first | (with_reducible first | exact HB.out | apply below_alloc | apply pw_below_drewN | apply below_drew1) | exact HB.out)⟩

/-- THE ONE PURE STATEMENT of backsteplaw44_PebbleComplete: yours. -/
def backsteplaw44_PebbleComplete.Pure : Prop := ∀ (a0 : Int) (a1 : Int), (Lit.int .u16 a0).wf = true → (Lit.int .u16 a1).wf = true → ∃ k, backsteplaw44_PebbleComplete.f k a0 a1 = some true
theorem backsteplaw44_PebbleComplete.walk (P : backsteplaw44_PebbleComplete.Pure) (a0 : Int) (a1 : Int) (w : World) (w0 : (Lit.int .u16 a0).wf = true) (w1 : (Lit.int .u16 a1).wf = true) :
    Calls Try.prog 7 #[.int .u16 a0, .int .u16 a1] w fun e w' => e = .returned (.bool true) ∧ Below w.heap.size w w' := by
  obtain ⟨k, h⟩ := P a0 a1 w0 w1
  refine (backsteplaw44_PebbleComplete.calls k a0 a1 true w h).mono ?_
  rintro e w' ⟨rfl, hd⟩
  exact ⟨rfl, hd⟩

/-! ### backsteplaw44_great: function 17 -/
def backsteplaw44_great.l0 : Nat → List Int → List Int → Int → Int → Option (Bool)
  | 0, _, _, _, _ => none
  | k + 1, x0, x5, x6, x7 => if x7 < x6 then (if 0 ≤ x7 then (if x7 < (x5.length : Int) then (if (rd x5 x7) > 2147483648 then (some true) else (if (rd x5 x7) < (-2147483648) then (some true) else (backsteplaw44_great.l0 k x0 x5 x6 (wrap64 (x7 + 1))))) else (none)) else (none)) else (some (decide ((x0.length : Int) > 600)))
def backsteplaw44_great.f (k : Nat) (l0 : List Int) : Option (Bool) := backsteplaw44_great.l0 k l0 l0 (l0.length : Int) 0
theorem backsteplaw44_great.mono_l : ∀ k, (∀ y0 y1 y2 y3, LeO (backsteplaw44_great.l0 k y0 y1 y2 y3) (backsteplaw44_great.l0 (k + 1) y0 y1 y2 y3))
  | 0 => fun _ _ _ _ r h => by simp [backsteplaw44_great.l0] at h
  | k + 1 => by
    have ih0 := backsteplaw44_great.mono_l k
    · intro y0 y1 y2 y3
      unfold backsteplaw44_great.l0
      repeat' first
      | (with_reducible exact ih0 _ _ _ _)
      | (with_reducible exact LeO.refl _)
      | (with_reducible exact LeO.none _)
      | (with_reducible refine LeO.ite ?_ ?_)
      | (with_reducible refine LeO.bind ?_ (fun _ => ?_))
      | exact ih0 _ _ _ _
      | exact LeO.none _
      | refine LeO.ite ?_ ?_
      | refine LeO.bind ?_ (fun _ => ?_)
theorem backsteplaw44_great.mono : ∀ a0 k, LeO (backsteplaw44_great.f k a0) (backsteplaw44_great.f (k + 1) a0) := by
  intro a0 k
  have ih0 := backsteplaw44_great.mono_l k
  unfold backsteplaw44_great.f
  repeat' first
      | (with_reducible exact ih0 _ _ _ _)
      | (with_reducible exact LeO.refl _)
      | (with_reducible exact LeO.none _)
      | (with_reducible refine LeO.ite ?_ ?_)
      | (with_reducible refine LeO.bind ?_ (fun _ => ?_))
      | exact ih0 _ _ _ _
      | exact LeO.none _
      | refine LeO.ite ?_ ?_
      | refine LeO.bind ?_ (fun _ => ?_)
set_option maxHeartbeats 8000000 in
set_option maxRecDepth 100000 in
theorem backsteplaw44_great.calls (k : Nat) (A0 : Option Addr) (c0 : Nat) (l0 : List Int) (r : Bool) (w : World) (hr0 : Kd.C (Kd.int .i64) w A0 l0.length l0) (hc0 : l0.length ≤ c0) (h : backsteplaw44_great.f k l0 = some r) :
    Calls Try.prog 17 #[.slice A0 l0.length c0] w fun e w' => e = .returned (.bool r) ∧ Drawn0 w w' := by
  have HR0 := Aside0.mk hr0
  have HC0 := Aside0.mk hc0
  clear hr0 hc0
  have H : (backsteplaw44_great.l0 k l0 l0 (l0.length : Int) 0) = some r := h
  clear h
  have H' := Aside0.mk H
  clear H
  go_enter Try.func17, Try.ntmps17
  go_wp2
  go_loopg [7] k (fun kq v7 w' => ∃ (x7_1 : Int), v7 = .int .i64 x7_1 ∧ Aside0 (backsteplaw44_great.l0 kq l0 l0 (l0.length : Int) x7_1 = some r) ∧ Aside0 (kq ≤ k) ∧ Drawn0 w w')
  case atStart => exact ⟨(0), (by first | rfl | (simp; done) | (simp [*]; done)), H', ⟨Nat.le_refl _⟩, by repeat (first | exact Drawn0.refl _ | apply Drawn0.step)⟩
  case round =>
    clear H'
    try clear c1
    obtain ⟨x7_1, rfl, HA, HK1, ⟨m1, rfl⟩⟩ := hrel
    cases gk with
    | zero => exact absurd HA.out (by simp [backsteplaw44_great.l0])
    | succ k1 =>
      have H := HA.out
      clear HA
      simp only [backsteplaw44_great.l0] at H
      by_cases c2 : x7_1 < (l0.length : Int)
      · rw [if_pos c2] at H
        have c2b0 : decide (x7_1 < (l0.length : Int)) = true := decide_eq_true c2
        clear c2
        by_cases c3 : 0 ≤ x7_1
        · rw [if_pos c3] at H
          have c3b0 : decide (0 ≤ x7_1) = true := decide_eq_true c3
          clear c3
          by_cases c4 : x7_1 < (l0.length : Int)
          · rw [if_pos c4] at H
            have c4b0 : decide (x7_1 < (l0.length : Int)) = true := decide_eq_true c4
            clear c4
            by_cases c5 : (rd l0 x7_1) > 2147483648
            · rw [if_pos c5] at H
              have c5b0 : decide (2147483648 < (rd l0 x7_1)) = true := decide_eq_true c5
              clear c5
              obtain rfl := Option.some.inj H
              have p180 : 0 ≤ (x7_1 : Int) := of_decide_eq_true (by first | (with_reducible assumption) | assumption)
              have q180 : x7_1 < (l0.length : Int) := of_decide_eq_true (by first | (with_reducible assumption) | assumption)
              obtain ⟨ad180, e180, hx180_0⟩ := Kd.at_int HR0.out x7_1 p180 q180
              cases e180
              replace p180 := eq_true p180
              replace q180 := eq_true q180
              go_wp2
              go_ret
              exact ⟨by first | rfl | (simp; done) | (simp [*]; done), by repeat (first | exact Drawn0.refl _ | apply Drawn0.step)⟩
            · rw [if_neg c5] at H
              have c5b0 : decide (2147483648 < (rd l0 x7_1)) = false := decide_eq_false c5
              clear c5
              by_cases c6 : (rd l0 x7_1) < (-2147483648)
              · rw [if_pos c6] at H
                have c6b0 : decide ((rd l0 x7_1) < (-2147483648)) = true := decide_eq_true c6
                clear c6
                obtain rfl := Option.some.inj H
                have p180 : 0 ≤ (x7_1 : Int) := of_decide_eq_true (by first | (with_reducible assumption) | assumption)
                have q180 : x7_1 < (l0.length : Int) := of_decide_eq_true (by first | (with_reducible assumption) | assumption)
                obtain ⟨ad180, e180, hx180_0⟩ := Kd.at_int HR0.out x7_1 p180 q180
                cases e180
                replace p180 := eq_true p180
                replace q180 := eq_true q180
                go_wp2
                go_ret
                exact ⟨by first | rfl | (simp; done) | (simp [*]; done), by repeat (first | exact Drawn0.refl _ | apply Drawn0.step)⟩
              · rw [if_neg c6] at H
                have c6b0 : decide ((rd l0 x7_1) < (-2147483648)) = false := decide_eq_false c6
                clear c6
                have H' := Aside0.mk H
                clear H
                have p180 : 0 ≤ (x7_1 : Int) := of_decide_eq_true (by first | (with_reducible assumption) | assumption)
                have q180 : x7_1 < (l0.length : Int) := of_decide_eq_true (by first | (with_reducible assumption) | assumption)
                obtain ⟨ad180, e180, hx180_0⟩ := Kd.at_int HR0.out x7_1 p180 q180
                cases e180
                replace p180 := eq_true p180
                replace q180 := eq_true q180
                go_wp2
                go_roundg k1
                case measure => have := HK1.out; omega
                case rel => exact ⟨(wrap64 (x7_1 + 1)), (by first | rfl | (simp; done) | (simp [*]; done)), H', ⟨by have := HK1.out; omega⟩, by repeat (first | exact Drawn0.refl _ | apply Drawn0.step)⟩
          · rw [if_neg c4] at H
            exact absurd H (by simp)
        · rw [if_neg c3] at H
          exact absurd H (by simp)
      · rw [if_neg c2] at H
        have c2b0 : decide (x7_1 < (l0.length : Int)) = false := decide_eq_false c2
        clear c2
        obtain rfl := Option.some.inj H
        go_wp2
        go_ret
        exact ⟨by first | rfl | (simp; done) | (simp [*]; done), by repeat (first | exact Drawn0.refl _ | apply Drawn0.step)⟩

end Go.Proofs.Ytpkamififbhheaa.PAll
