-- LAID BY A PROGRAM (wip/tprint.py) out of the translation. Nothing here is trusted.
import Derived.Test.YtpkamififbhheaaPAllx0
import Derived.Test.YtpkamififbhheaaPAllx1
import Derived.Test.YtpkamififbhheaaPAllx7
import Derived.Test.YtpkamififbhheaaBst
import Derived.Test.YtpkamififbhheaaLeg
namespace Go.Proofs.Ytpkamififbhheaa.PAll
open Go.RowKit Go.Proofs.YtpkamififbhheaaW.PrintWords Go.Proofs.YtpkamififbhheaaW.PrintLast Go.Proofs.YtpkamififbhheaaW.PrintMore
attribute [local go_sem] max2_int min2_int max_two min_two max_three min_three max_four min_four   -- for this text's walks alone
set_option linter.unusedVariables false
set_option linter.unusedSimpArgs false

/-! ### backsteplaw44_PebbleReach: function 10 -/
def backsteplaw44_PebbleReach.j0 : Nat → Int → Int → List Int → Bool → Bool → Option (Bool)
  | 0, _, _, _, _, _ => none
  | k + 1, x5, x6, x7, x8, x80 => if x80 = true then (some false) else (if x8 = true then ((pebble_Legal.f x5 x7).bind fun bt263 => (if bt263.2 = true then (if bt263.1 = (x7.length : Int) then ((pebble_Peak.f k x7).bind fun t265 => (some (decide (t265 ≤ x6)))) else (some false)) else (some false))) else (some ((x7.length : Int) == 0)))
def backsteplaw44_PebbleReach.f (k : Nat) (a0 : Int) (a1 : Int) : Option (Bool) := (backsteplaw44_awake.f k).bind fun t249 => (if t249 = true then ((pebble_Best.f k (wrap64 (1 + (Int.tmod (wrap64 (a0)) 8))) (Int.tmod (wrap64 (a1)) 8)).bind fun bt250 => ((pebble_Best.f k (wrap64 (1 + (Int.tmod (wrap64 (a0)) 8))) (wrap64 ((Int.tmod (wrap64 (a1)) 8) + 1))).bind fun bt254 => ((pebble_Reach.f (Int.tmod (wrap64 (a1)) 8)).bind fun t258 => (if (bt250.2 != (decide ((wrap64 (1 + (Int.tmod (wrap64 (a0)) 8))) ≤ t258))) = true then (backsteplaw44_PebbleReach.j0 k (wrap64 (1 + (Int.tmod (wrap64 (a0)) 8))) (Int.tmod (wrap64 (a1)) 8) bt250.1 bt250.2 true) else (if bt250.2 = true then (if bt254.2 = true then (if (bt254.1.length : Int) > (bt250.1.length : Int) then (backsteplaw44_PebbleReach.j0 k (wrap64 (1 + (Int.tmod (wrap64 (a0)) 8))) (Int.tmod (wrap64 (a1)) 8) bt250.1 bt250.2 true) else ((pebble_Reach.f (wrap64 (-(Int.tmod (wrap64 (a1)) 8)))).bind fun t259 => (if t259 = 0 then ((pebble_Reach.f (wrap64 ((Int.tmod (wrap64 (a1)) 8) + 1))).bind fun t260 => (if t260 < t258 then (backsteplaw44_PebbleReach.j0 k (wrap64 (1 + (Int.tmod (wrap64 (a0)) 8))) (Int.tmod (wrap64 (a1)) 8) bt250.1 bt250.2 true) else (if (Int.tmod (wrap64 (a1)) 8) ≥ 1 then (if 0 ≤ (wrap64 ((Int.tmod (wrap64 (a1)) 8) - 1)) then (backsteplaw44_PebbleReach.j0 k (wrap64 (1 + (Int.tmod (wrap64 (a0)) 8))) (Int.tmod (wrap64 (a1)) 8) bt250.1 bt250.2 (t258 != (shl .i64 1 (wrap64 ((Int.tmod (wrap64 (a1)) 8) - 1))))) else (none)) else (backsteplaw44_PebbleReach.j0 k (wrap64 (1 + (Int.tmod (wrap64 (a0)) 8))) (Int.tmod (wrap64 (a1)) 8) bt250.1 bt250.2 false)))) else (backsteplaw44_PebbleReach.j0 k (wrap64 (1 + (Int.tmod (wrap64 (a0)) 8))) (Int.tmod (wrap64 (a1)) 8) bt250.1 bt250.2 true)))) else (backsteplaw44_PebbleReach.j0 k (wrap64 (1 + (Int.tmod (wrap64 (a0)) 8))) (Int.tmod (wrap64 (a1)) 8) bt250.1 bt250.2 true)) else ((pebble_Reach.f (wrap64 (-(Int.tmod (wrap64 (a1)) 8)))).bind fun t261 => (if t261 = 0 then ((pebble_Reach.f (wrap64 ((Int.tmod (wrap64 (a1)) 8) + 1))).bind fun t262 => (if t262 < t258 then (backsteplaw44_PebbleReach.j0 k (wrap64 (1 + (Int.tmod (wrap64 (a0)) 8))) (Int.tmod (wrap64 (a1)) 8) bt250.1 bt250.2 true) else (if (Int.tmod (wrap64 (a1)) 8) ≥ 1 then (if 0 ≤ (wrap64 ((Int.tmod (wrap64 (a1)) 8) - 1)) then (backsteplaw44_PebbleReach.j0 k (wrap64 (1 + (Int.tmod (wrap64 (a0)) 8))) (Int.tmod (wrap64 (a1)) 8) bt250.1 bt250.2 (t258 != (shl .i64 1 (wrap64 ((Int.tmod (wrap64 (a1)) 8) - 1))))) else (none)) else (backsteplaw44_PebbleReach.j0 k (wrap64 (1 + (Int.tmod (wrap64 (a0)) 8))) (Int.tmod (wrap64 (a1)) 8) bt250.1 bt250.2 false)))) else (backsteplaw44_PebbleReach.j0 k (wrap64 (1 + (Int.tmod (wrap64 (a0)) 8))) (Int.tmod (wrap64 (a1)) 8) bt250.1 bt250.2 true)))))))) else (some false))
theorem backsteplaw44_PebbleReach.mono_l : ∀ k, (∀ y0 y1 y2 y3 y4, LeO (backsteplaw44_PebbleReach.j0 k y0 y1 y2 y3 y4) (backsteplaw44_PebbleReach.j0 (k + 1) y0 y1 y2 y3 y4))
  | 0 => fun _ _ _ _ _ r h => by simp [backsteplaw44_PebbleReach.j0] at h
  | k + 1 => by
    have ih0 := backsteplaw44_PebbleReach.mono_l k
    · intro y0 y1 y2 y3 y4
      unfold backsteplaw44_PebbleReach.j0
      repeat' first
      | (with_reducible exact ih0 _ _ _ _ _)
      | (with_reducible exact backsteplaw44_awake.mono _)
      | (with_reducible exact pebble_Best.mono _ _ _)
      | (with_reducible exact pebble_Peak.mono _ _)
      | (with_reducible exact LeO.refl _)
      | (with_reducible exact LeO.none _)
      | (with_reducible refine LeO.ite ?_ ?_)
      | (with_reducible refine LeO.bind ?_ (fun _ => ?_))
      | exact ih0 _ _ _ _ _
      | exact backsteplaw44_awake.mono _
      | exact pebble_Best.mono _ _ _
      | exact pebble_Peak.mono _ _
      | exact LeO.none _
      | refine LeO.ite ?_ ?_
      | refine LeO.bind ?_ (fun _ => ?_)
theorem backsteplaw44_PebbleReach.mono : ∀ a0 a1 k, LeO (backsteplaw44_PebbleReach.f k a0 a1) (backsteplaw44_PebbleReach.f (k + 1) a0 a1) := by
  intro a0 a1 k
  have ih0 := backsteplaw44_PebbleReach.mono_l k
  unfold backsteplaw44_PebbleReach.f
  repeat' first
      | (with_reducible exact ih0 _ _ _ _ _)
      | (with_reducible exact backsteplaw44_awake.mono _)
      | (with_reducible exact pebble_Best.mono _ _ _)
      | (with_reducible exact pebble_Peak.mono _ _)
      | (with_reducible exact LeO.refl _)
      | (with_reducible exact LeO.none _)
      | (with_reducible refine LeO.ite ?_ ?_)
      | (with_reducible refine LeO.bind ?_ (fun _ => ?_))
      | exact ih0 _ _ _ _ _
      | exact backsteplaw44_awake.mono _
      | exact pebble_Best.mono _ _ _
      | exact pebble_Peak.mono _ _
      | exact LeO.none _
      | refine LeO.ite ?_ ?_
      | refine LeO.bind ?_ (fun _ => ?_)
set_option maxHeartbeats 8000000 in
set_option maxRecDepth 100000 in
theorem backsteplaw44_PebbleReach.calls (k : Nat) (a0 : Int) (a1 : Int) (r : Bool) (w : World) (h : backsteplaw44_PebbleReach.f k a0 a1 = some r) :
    Calls Try.prog 10 #[.int .u8 a0, .int .u8 a1] w fun e w' => e = .returned (.bool r) ∧ Below w.heap.size w w' := by
  have HB := Aside0.mk (Below.refl w.heap.size w)
  have H : ((backsteplaw44_awake.f k).bind fun t249 => (if t249 = true then ((pebble_Best.f k (wrap64 (1 + (Int.tmod (wrap64 (a0)) 8))) (Int.tmod (wrap64 (a1)) 8)).bind fun bt250 => ((pebble_Best.f k (wrap64 (1 + (Int.tmod (wrap64 (a0)) 8))) (wrap64 ((Int.tmod (wrap64 (a1)) 8) + 1))).bind fun bt254 => ((pebble_Reach.f (Int.tmod (wrap64 (a1)) 8)).bind fun t258 => (if (bt250.2 != (decide ((wrap64 (1 + (Int.tmod (wrap64 (a0)) 8))) ≤ t258))) = true then (backsteplaw44_PebbleReach.j0 k (wrap64 (1 + (Int.tmod (wrap64 (a0)) 8))) (Int.tmod (wrap64 (a1)) 8) bt250.1 bt250.2 true) else (if bt250.2 = true then (if bt254.2 = true then (if (bt254.1.length : Int) > (bt250.1.length : Int) then (backsteplaw44_PebbleReach.j0 k (wrap64 (1 + (Int.tmod (wrap64 (a0)) 8))) (Int.tmod (wrap64 (a1)) 8) bt250.1 bt250.2 true) else ((pebble_Reach.f (wrap64 (-(Int.tmod (wrap64 (a1)) 8)))).bind fun t259 => (if t259 = 0 then ((pebble_Reach.f (wrap64 ((Int.tmod (wrap64 (a1)) 8) + 1))).bind fun t260 => (if t260 < t258 then (backsteplaw44_PebbleReach.j0 k (wrap64 (1 + (Int.tmod (wrap64 (a0)) 8))) (Int.tmod (wrap64 (a1)) 8) bt250.1 bt250.2 true) else (if (Int.tmod (wrap64 (a1)) 8) ≥ 1 then (if 0 ≤ (wrap64 ((Int.tmod (wrap64 (a1)) 8) - 1)) then (backsteplaw44_PebbleReach.j0 k (wrap64 (1 + (Int.tmod (wrap64 (a0)) 8))) (Int.tmod (wrap64 (a1)) 8) bt250.1 bt250.2 (t258 != (shl .i64 1 (wrap64 ((Int.tmod (wrap64 (a1)) 8) - 1))))) else (none)) else (backsteplaw44_PebbleReach.j0 k (wrap64 (1 + (Int.tmod (wrap64 (a0)) 8))) (Int.tmod (wrap64 (a1)) 8) bt250.1 bt250.2 false)))) else (backsteplaw44_PebbleReach.j0 k (wrap64 (1 + (Int.tmod (wrap64 (a0)) 8))) (Int.tmod (wrap64 (a1)) 8) bt250.1 bt250.2 true)))) else (backsteplaw44_PebbleReach.j0 k (wrap64 (1 + (Int.tmod (wrap64 (a0)) 8))) (Int.tmod (wrap64 (a1)) 8) bt250.1 bt250.2 true)) else ((pebble_Reach.f (wrap64 (-(Int.tmod (wrap64 (a1)) 8)))).bind fun t261 => (if t261 = 0 then ((pebble_Reach.f (wrap64 ((Int.tmod (wrap64 (a1)) 8) + 1))).bind fun t262 => (if t262 < t258 then (backsteplaw44_PebbleReach.j0 k (wrap64 (1 + (Int.tmod (wrap64 (a0)) 8))) (Int.tmod (wrap64 (a1)) 8) bt250.1 bt250.2 true) else (if (Int.tmod (wrap64 (a1)) 8) ≥ 1 then (if 0 ≤ (wrap64 ((Int.tmod (wrap64 (a1)) 8) - 1)) then (backsteplaw44_PebbleReach.j0 k (wrap64 (1 + (Int.tmod (wrap64 (a0)) 8))) (Int.tmod (wrap64 (a1)) 8) bt250.1 bt250.2 (t258 != (shl .i64 1 (wrap64 ((Int.tmod (wrap64 (a1)) 8) - 1))))) else (none)) else (backsteplaw44_PebbleReach.j0 k (wrap64 (1 + (Int.tmod (wrap64 (a0)) 8))) (Int.tmod (wrap64 (a1)) 8) bt250.1 bt250.2 false)))) else (backsteplaw44_PebbleReach.j0 k (wrap64 (1 + (Int.tmod (wrap64 (a0)) 8))) (Int.tmod (wrap64 (a1)) 8) bt250.1 bt250.2 true)))))))) else (some false))) = some r := h
  clear h
  replace H := Option.bind_eq_some_iff.mp H
  obtain ⟨t249, A30, H⟩ := H
  replace H : (if t249 = true then ((pebble_Best.f k (wrap64 (1 + (Int.tmod (wrap64 (a0)) 8))) (Int.tmod (wrap64 (a1)) 8)).bind fun bt250 => ((pebble_Best.f k (wrap64 (1 + (Int.tmod (wrap64 (a0)) 8))) (wrap64 ((Int.tmod (wrap64 (a1)) 8) + 1))).bind fun bt254 => ((pebble_Reach.f (Int.tmod (wrap64 (a1)) 8)).bind fun t258 => (if (bt250.2 != (decide ((wrap64 (1 + (Int.tmod (wrap64 (a0)) 8))) ≤ t258))) = true then (backsteplaw44_PebbleReach.j0 k (wrap64 (1 + (Int.tmod (wrap64 (a0)) 8))) (Int.tmod (wrap64 (a1)) 8) bt250.1 bt250.2 true) else (if bt250.2 = true then (if bt254.2 = true then (if (bt254.1.length : Int) > (bt250.1.length : Int) then (backsteplaw44_PebbleReach.j0 k (wrap64 (1 + (Int.tmod (wrap64 (a0)) 8))) (Int.tmod (wrap64 (a1)) 8) bt250.1 bt250.2 true) else ((pebble_Reach.f (wrap64 (-(Int.tmod (wrap64 (a1)) 8)))).bind fun t259 => (if t259 = 0 then ((pebble_Reach.f (wrap64 ((Int.tmod (wrap64 (a1)) 8) + 1))).bind fun t260 => (if t260 < t258 then (backsteplaw44_PebbleReach.j0 k (wrap64 (1 + (Int.tmod (wrap64 (a0)) 8))) (Int.tmod (wrap64 (a1)) 8) bt250.1 bt250.2 true) else (if (Int.tmod (wrap64 (a1)) 8) ≥ 1 then (if 0 ≤ (wrap64 ((Int.tmod (wrap64 (a1)) 8) - 1)) then (backsteplaw44_PebbleReach.j0 k (wrap64 (1 + (Int.tmod (wrap64 (a0)) 8))) (Int.tmod (wrap64 (a1)) 8) bt250.1 bt250.2 (t258 != (shl .i64 1 (wrap64 ((Int.tmod (wrap64 (a1)) 8) - 1))))) else (none)) else (backsteplaw44_PebbleReach.j0 k (wrap64 (1 + (Int.tmod (wrap64 (a0)) 8))) (Int.tmod (wrap64 (a1)) 8) bt250.1 bt250.2 false)))) else (backsteplaw44_PebbleReach.j0 k (wrap64 (1 + (Int.tmod (wrap64 (a0)) 8))) (Int.tmod (wrap64 (a1)) 8) bt250.1 bt250.2 true)))) else (backsteplaw44_PebbleReach.j0 k (wrap64 (1 + (Int.tmod (wrap64 (a0)) 8))) (Int.tmod (wrap64 (a1)) 8) bt250.1 bt250.2 true)) else ((pebble_Reach.f (wrap64 (-(Int.tmod (wrap64 (a1)) 8)))).bind fun t261 => (if t261 = 0 then ((pebble_Reach.f (wrap64 ((Int.tmod (wrap64 (a1)) 8) + 1))).bind fun t262 => (if t262 < t258 then (backsteplaw44_PebbleReach.j0 k (wrap64 (1 + (Int.tmod (wrap64 (a0)) 8))) (Int.tmod (wrap64 (a1)) 8) bt250.1 bt250.2 true) else (if (Int.tmod (wrap64 (a1)) 8) ≥ 1 then (if 0 ≤ (wrap64 ((Int.tmod (wrap64 (a1)) 8) - 1)) then (backsteplaw44_PebbleReach.j0 k (wrap64 (1 + (Int.tmod (wrap64 (a0)) 8))) (Int.tmod (wrap64 (a1)) 8) bt250.1 bt250.2 (t258 != (shl .i64 1 (wrap64 ((Int.tmod (wrap64 (a1)) 8) - 1))))) else (none)) else (backsteplaw44_PebbleReach.j0 k (wrap64 (1 + (Int.tmod (wrap64 (a0)) 8))) (Int.tmod (wrap64 (a1)) 8) bt250.1 bt250.2 false)))) else (backsteplaw44_PebbleReach.j0 k (wrap64 (1 + (Int.tmod (wrap64 (a0)) 8))) (Int.tmod (wrap64 (a1)) 8) bt250.1 bt250.2 true)))))))) else (some false)) = some r := H
  have A3 := Aside0.mk A30
  clear A30
  by_cases c4 : t249 = true
  · subst c4
    have H1 : ((pebble_Best.f k (wrap64 (1 + (Int.tmod (wrap64 (a0)) 8))) (Int.tmod (wrap64 (a1)) 8)).bind fun bt250 => ((pebble_Best.f k (wrap64 (1 + (Int.tmod (wrap64 (a0)) 8))) (wrap64 ((Int.tmod (wrap64 (a1)) 8) + 1))).bind fun bt254 => ((pebble_Reach.f (Int.tmod (wrap64 (a1)) 8)).bind fun t258 => (if (bt250.2 != (decide ((wrap64 (1 + (Int.tmod (wrap64 (a0)) 8))) ≤ t258))) = true then (backsteplaw44_PebbleReach.j0 k (wrap64 (1 + (Int.tmod (wrap64 (a0)) 8))) (Int.tmod (wrap64 (a1)) 8) bt250.1 bt250.2 true) else (if bt250.2 = true then (if bt254.2 = true then (if (bt254.1.length : Int) > (bt250.1.length : Int) then (backsteplaw44_PebbleReach.j0 k (wrap64 (1 + (Int.tmod (wrap64 (a0)) 8))) (Int.tmod (wrap64 (a1)) 8) bt250.1 bt250.2 true) else ((pebble_Reach.f (wrap64 (-(Int.tmod (wrap64 (a1)) 8)))).bind fun t259 => (if t259 = 0 then ((pebble_Reach.f (wrap64 ((Int.tmod (wrap64 (a1)) 8) + 1))).bind fun t260 => (if t260 < t258 then (backsteplaw44_PebbleReach.j0 k (wrap64 (1 + (Int.tmod (wrap64 (a0)) 8))) (Int.tmod (wrap64 (a1)) 8) bt250.1 bt250.2 true) else (if (Int.tmod (wrap64 (a1)) 8) ≥ 1 then (if 0 ≤ (wrap64 ((Int.tmod (wrap64 (a1)) 8) - 1)) then (backsteplaw44_PebbleReach.j0 k (wrap64 (1 + (Int.tmod (wrap64 (a0)) 8))) (Int.tmod (wrap64 (a1)) 8) bt250.1 bt250.2 (t258 != (shl .i64 1 (wrap64 ((Int.tmod (wrap64 (a1)) 8) - 1))))) else (none)) else (backsteplaw44_PebbleReach.j0 k (wrap64 (1 + (Int.tmod (wrap64 (a0)) 8))) (Int.tmod (wrap64 (a1)) 8) bt250.1 bt250.2 false)))) else (backsteplaw44_PebbleReach.j0 k (wrap64 (1 + (Int.tmod (wrap64 (a0)) 8))) (Int.tmod (wrap64 (a1)) 8) bt250.1 bt250.2 true)))) else (backsteplaw44_PebbleReach.j0 k (wrap64 (1 + (Int.tmod (wrap64 (a0)) 8))) (Int.tmod (wrap64 (a1)) 8) bt250.1 bt250.2 true)) else ((pebble_Reach.f (wrap64 (-(Int.tmod (wrap64 (a1)) 8)))).bind fun t261 => (if t261 = 0 then ((pebble_Reach.f (wrap64 ((Int.tmod (wrap64 (a1)) 8) + 1))).bind fun t262 => (if t262 < t258 then (backsteplaw44_PebbleReach.j0 k (wrap64 (1 + (Int.tmod (wrap64 (a0)) 8))) (Int.tmod (wrap64 (a1)) 8) bt250.1 bt250.2 true) else (if (Int.tmod (wrap64 (a1)) 8) ≥ 1 then (if 0 ≤ (wrap64 ((Int.tmod (wrap64 (a1)) 8) - 1)) then (backsteplaw44_PebbleReach.j0 k (wrap64 (1 + (Int.tmod (wrap64 (a0)) 8))) (Int.tmod (wrap64 (a1)) 8) bt250.1 bt250.2 (t258 != (shl .i64 1 (wrap64 ((Int.tmod (wrap64 (a1)) 8) - 1))))) else (none)) else (backsteplaw44_PebbleReach.j0 k (wrap64 (1 + (Int.tmod (wrap64 (a0)) 8))) (Int.tmod (wrap64 (a1)) 8) bt250.1 bt250.2 false)))) else (backsteplaw44_PebbleReach.j0 k (wrap64 (1 + (Int.tmod (wrap64 (a0)) 8))) (Int.tmod (wrap64 (a1)) 8) bt250.1 bt250.2 true)))))))) = some r := by rw [if_pos rfl] at H; exact H
    clear H
    have H := H1
    clear H1
    replace H := Option.bind_eq_some_iff.mp H
    obtain ⟨⟨t250, t251⟩, A50, H⟩ := H
    replace H : ((pebble_Best.f k (wrap64 (1 + (Int.tmod (wrap64 (a0)) 8))) (wrap64 ((Int.tmod (wrap64 (a1)) 8) + 1))).bind fun bt254 => ((pebble_Reach.f (Int.tmod (wrap64 (a1)) 8)).bind fun t258 => (if (t251 != (decide ((wrap64 (1 + (Int.tmod (wrap64 (a0)) 8))) ≤ t258))) = true then (backsteplaw44_PebbleReach.j0 k (wrap64 (1 + (Int.tmod (wrap64 (a0)) 8))) (Int.tmod (wrap64 (a1)) 8) t250 t251 true) else (if t251 = true then (if bt254.2 = true then (if (bt254.1.length : Int) > (t250.length : Int) then (backsteplaw44_PebbleReach.j0 k (wrap64 (1 + (Int.tmod (wrap64 (a0)) 8))) (Int.tmod (wrap64 (a1)) 8) t250 t251 true) else ((pebble_Reach.f (wrap64 (-(Int.tmod (wrap64 (a1)) 8)))).bind fun t259 => (if t259 = 0 then ((pebble_Reach.f (wrap64 ((Int.tmod (wrap64 (a1)) 8) + 1))).bind fun t260 => (if t260 < t258 then (backsteplaw44_PebbleReach.j0 k (wrap64 (1 + (Int.tmod (wrap64 (a0)) 8))) (Int.tmod (wrap64 (a1)) 8) t250 t251 true) else (if (Int.tmod (wrap64 (a1)) 8) ≥ 1 then (if 0 ≤ (wrap64 ((Int.tmod (wrap64 (a1)) 8) - 1)) then (backsteplaw44_PebbleReach.j0 k (wrap64 (1 + (Int.tmod (wrap64 (a0)) 8))) (Int.tmod (wrap64 (a1)) 8) t250 t251 (t258 != (shl .i64 1 (wrap64 ((Int.tmod (wrap64 (a1)) 8) - 1))))) else (none)) else (backsteplaw44_PebbleReach.j0 k (wrap64 (1 + (Int.tmod (wrap64 (a0)) 8))) (Int.tmod (wrap64 (a1)) 8) t250 t251 false)))) else (backsteplaw44_PebbleReach.j0 k (wrap64 (1 + (Int.tmod (wrap64 (a0)) 8))) (Int.tmod (wrap64 (a1)) 8) t250 t251 true)))) else (backsteplaw44_PebbleReach.j0 k (wrap64 (1 + (Int.tmod (wrap64 (a0)) 8))) (Int.tmod (wrap64 (a1)) 8) t250 t251 true)) else ((pebble_Reach.f (wrap64 (-(Int.tmod (wrap64 (a1)) 8)))).bind fun t261 => (if t261 = 0 then ((pebble_Reach.f (wrap64 ((Int.tmod (wrap64 (a1)) 8) + 1))).bind fun t262 => (if t262 < t258 then (backsteplaw44_PebbleReach.j0 k (wrap64 (1 + (Int.tmod (wrap64 (a0)) 8))) (Int.tmod (wrap64 (a1)) 8) t250 t251 true) else (if (Int.tmod (wrap64 (a1)) 8) ≥ 1 then (if 0 ≤ (wrap64 ((Int.tmod (wrap64 (a1)) 8) - 1)) then (backsteplaw44_PebbleReach.j0 k (wrap64 (1 + (Int.tmod (wrap64 (a0)) 8))) (Int.tmod (wrap64 (a1)) 8) t250 t251 (t258 != (shl .i64 1 (wrap64 ((Int.tmod (wrap64 (a1)) 8) - 1))))) else (none)) else (backsteplaw44_PebbleReach.j0 k (wrap64 (1 + (Int.tmod (wrap64 (a0)) 8))) (Int.tmod (wrap64 (a1)) 8) t250 t251 false)))) else (backsteplaw44_PebbleReach.j0 k (wrap64 (1 + (Int.tmod (wrap64 (a0)) 8))) (Int.tmod (wrap64 (a1)) 8) t250 t251 true))))))) = some r := H
    have A5 := Aside0.mk A50
    clear A50
    replace H := Option.bind_eq_some_iff.mp H
    obtain ⟨⟨t254, t255⟩, A60, H⟩ := H
    replace H : ((pebble_Reach.f (Int.tmod (wrap64 (a1)) 8)).bind fun t258 => (if (t251 != (decide ((wrap64 (1 + (Int.tmod (wrap64 (a0)) 8))) ≤ t258))) = true then (backsteplaw44_PebbleReach.j0 k (wrap64 (1 + (Int.tmod (wrap64 (a0)) 8))) (Int.tmod (wrap64 (a1)) 8) t250 t251 true) else (if t251 = true then (if t255 = true then (if (t254.length : Int) > (t250.length : Int) then (backsteplaw44_PebbleReach.j0 k (wrap64 (1 + (Int.tmod (wrap64 (a0)) 8))) (Int.tmod (wrap64 (a1)) 8) t250 t251 true) else ((pebble_Reach.f (wrap64 (-(Int.tmod (wrap64 (a1)) 8)))).bind fun t259 => (if t259 = 0 then ((pebble_Reach.f (wrap64 ((Int.tmod (wrap64 (a1)) 8) + 1))).bind fun t260 => (if t260 < t258 then (backsteplaw44_PebbleReach.j0 k (wrap64 (1 + (Int.tmod (wrap64 (a0)) 8))) (Int.tmod (wrap64 (a1)) 8) t250 t251 true) else (if (Int.tmod (wrap64 (a1)) 8) ≥ 1 then (if 0 ≤ (wrap64 ((Int.tmod (wrap64 (a1)) 8) - 1)) then (backsteplaw44_PebbleReach.j0 k (wrap64 (1 + (Int.tmod (wrap64 (a0)) 8))) (Int.tmod (wrap64 (a1)) 8) t250 t251 (t258 != (shl .i64 1 (wrap64 ((Int.tmod (wrap64 (a1)) 8) - 1))))) else (none)) else (backsteplaw44_PebbleReach.j0 k (wrap64 (1 + (Int.tmod (wrap64 (a0)) 8))) (Int.tmod (wrap64 (a1)) 8) t250 t251 false)))) else (backsteplaw44_PebbleReach.j0 k (wrap64 (1 + (Int.tmod (wrap64 (a0)) 8))) (Int.tmod (wrap64 (a1)) 8) t250 t251 true)))) else (backsteplaw44_PebbleReach.j0 k (wrap64 (1 + (Int.tmod (wrap64 (a0)) 8))) (Int.tmod (wrap64 (a1)) 8) t250 t251 true)) else ((pebble_Reach.f (wrap64 (-(Int.tmod (wrap64 (a1)) 8)))).bind fun t261 => (if t261 = 0 then ((pebble_Reach.f (wrap64 ((Int.tmod (wrap64 (a1)) 8) + 1))).bind fun t262 => (if t262 < t258 then (backsteplaw44_PebbleReach.j0 k (wrap64 (1 + (Int.tmod (wrap64 (a0)) 8))) (Int.tmod (wrap64 (a1)) 8) t250 t251 true) else (if (Int.tmod (wrap64 (a1)) 8) ≥ 1 then (if 0 ≤ (wrap64 ((Int.tmod (wrap64 (a1)) 8) - 1)) then (backsteplaw44_PebbleReach.j0 k (wrap64 (1 + (Int.tmod (wrap64 (a0)) 8))) (Int.tmod (wrap64 (a1)) 8) t250 t251 (t258 != (shl .i64 1 (wrap64 ((Int.tmod (wrap64 (a1)) 8) - 1))))) else (none)) else (backsteplaw44_PebbleReach.j0 k (wrap64 (1 + (Int.tmod (wrap64 (a0)) 8))) (Int.tmod (wrap64 (a1)) 8) t250 t251 false)))) else (backsteplaw44_PebbleReach.j0 k (wrap64 (1 + (Int.tmod (wrap64 (a0)) 8))) (Int.tmod (wrap64 (a1)) 8) t250 t251 true)))))) = some r := H
    have A6 := Aside0.mk A60
    clear A60
    replace H := Option.bind_eq_some_iff.mp H
    obtain ⟨t258, A70, H⟩ := H
    replace H : (if (t251 != (decide ((wrap64 (1 + (Int.tmod (wrap64 (a0)) 8))) ≤ t258))) = true then (backsteplaw44_PebbleReach.j0 k (wrap64 (1 + (Int.tmod (wrap64 (a0)) 8))) (Int.tmod (wrap64 (a1)) 8) t250 t251 true) else (if t251 = true then (if t255 = true then (if (t254.length : Int) > (t250.length : Int) then (backsteplaw44_PebbleReach.j0 k (wrap64 (1 + (Int.tmod (wrap64 (a0)) 8))) (Int.tmod (wrap64 (a1)) 8) t250 t251 true) else ((pebble_Reach.f (wrap64 (-(Int.tmod (wrap64 (a1)) 8)))).bind fun t259 => (if t259 = 0 then ((pebble_Reach.f (wrap64 ((Int.tmod (wrap64 (a1)) 8) + 1))).bind fun t260 => (if t260 < t258 then (backsteplaw44_PebbleReach.j0 k (wrap64 (1 + (Int.tmod (wrap64 (a0)) 8))) (Int.tmod (wrap64 (a1)) 8) t250 t251 true) else (if (Int.tmod (wrap64 (a1)) 8) ≥ 1 then (if 0 ≤ (wrap64 ((Int.tmod (wrap64 (a1)) 8) - 1)) then (backsteplaw44_PebbleReach.j0 k (wrap64 (1 + (Int.tmod (wrap64 (a0)) 8))) (Int.tmod (wrap64 (a1)) 8) t250 t251 (t258 != (shl .i64 1 (wrap64 ((Int.tmod (wrap64 (a1)) 8) - 1))))) else (none)) else (backsteplaw44_PebbleReach.j0 k (wrap64 (1 + (Int.tmod (wrap64 (a0)) 8))) (Int.tmod (wrap64 (a1)) 8) t250 t251 false)))) else (backsteplaw44_PebbleReach.j0 k (wrap64 (1 + (Int.tmod (wrap64 (a0)) 8))) (Int.tmod (wrap64 (a1)) 8) t250 t251 true)))) else (backsteplaw44_PebbleReach.j0 k (wrap64 (1 + (Int.tmod (wrap64 (a0)) 8))) (Int.tmod (wrap64 (a1)) 8) t250 t251 true)) else ((pebble_Reach.f (wrap64 (-(Int.tmod (wrap64 (a1)) 8)))).bind fun t261 => (if t261 = 0 then ((pebble_Reach.f (wrap64 ((Int.tmod (wrap64 (a1)) 8) + 1))).bind fun t262 => (if t262 < t258 then (backsteplaw44_PebbleReach.j0 k (wrap64 (1 + (Int.tmod (wrap64 (a0)) 8))) (Int.tmod (wrap64 (a1)) 8) t250 t251 true) else (if (Int.tmod (wrap64 (a1)) 8) ≥ 1 then (if 0 ≤ (wrap64 ((Int.tmod (wrap64 (a1)) 8) - 1)) then (backsteplaw44_PebbleReach.j0 k (wrap64 (1 + (Int.tmod (wrap64 (a0)) 8))) (Int.tmod (wrap64 (a1)) 8) t250 t251 (t258 != (shl .i64 1 (wrap64 ((Int.tmod (wrap64 (a1)) 8) - 1))))) else (none)) else (backsteplaw44_PebbleReach.j0 k (wrap64 (1 + (Int.tmod (wrap64 (a0)) 8))) (Int.tmod (wrap64 (a1)) 8) t250 t251 false)))) else (backsteplaw44_PebbleReach.j0 k (wrap64 (1 + (Int.tmod (wrap64 (a0)) 8))) (Int.tmod (wrap64 (a1)) 8) t250 t251 true))))) = some r := H
    have A7 := Aside0.mk A70
    clear A70
    have HC8 := Aside0.mk H
    clear H
    go_enter Try.func10, Try.ntmps10
    go_upto_region 7 with (first | ((with_reducible refine gate_callee (f := 11) rfl ?_); refine goesL_ (some 14) rfl rfl Try.func11 (by kernel_rfl) rfl #[] rfl (by (try simp only [List.map_toArray, List.map_cons, List.map_nil]); first | done | rfl | (simp only [List.length_drop, List.length_take]; rfl)) ?_; (with_reducible refine (backsteplaw44_awake.calls k  true _ A3.out).mono ?_); rintro e w9 ⟨rfl, hb⟩; refine ⟨_, rfl, ?_⟩; have n0_ := Aside0.mk (below_step (by repeat (first | (with_reducible first | exact HB.out | apply below_alloc | apply pw_below_drewN | apply below_drew1) | exact HB.out)) hb); clear HB; have HB := n0_; clear n0_; (try clear hb); (try clear hb2); (try clear hk); (try clear hi)) | ((with_reducible refine gate_callee (f := 15) rfl ?_); refine goesL_ (some 26) rfl rfl Try.func15 (by kernel_rfl) rfl #[.int .i64 (wrap64 (1 + (Int.tmod (wrap64 (a0)) 8))), .int .i64 (Int.tmod (wrap64 (a1)) 8)] rfl (by (try simp only [List.map_toArray, List.map_cons, List.map_nil]); first | done | rfl | (simp only [List.length_drop, List.length_take]; rfl)) ?_; (with_reducible refine (pebble_Best.calls k (wrap64 (1 + (Int.tmod (wrap64 (a0)) 8))) (Int.tmod (wrap64 (a1)) 8) t250 t251 _ A5.out).mono ?_); rintro e w10 ⟨v252, rfl, ho0, hb⟩; refine ⟨_, rfl, ?_⟩; have n0_ := Aside0.mk (Kd.R_lower ho0 (below_size (by repeat (first | (with_reducible first | exact HB.out | apply below_alloc | apply pw_below_drewN | apply below_drew1) | exact HB.out)))); have n1_ := Aside0.mk (below_step (by repeat (first | (with_reducible first | exact HB.out | apply below_alloc | apply pw_below_drewN | apply below_drew1) | exact HB.out)) hb); clear HB; have HO253 := n0_; have HB := n1_; clear n0_ n1_; (try clear hb); (try clear hb2); (try clear hk); (try clear hi); (try clear ho0)) | ((with_reducible refine gate_callee (f := 15) rfl ?_); refine goesL_ (some 33) rfl rfl Try.func15 (by kernel_rfl) rfl #[.int .i64 (wrap64 (1 + (Int.tmod (wrap64 (a0)) 8))), .int .i64 (wrap64 ((Int.tmod (wrap64 (a1)) 8) + 1))] rfl (by (try simp only [List.map_toArray, List.map_cons, List.map_nil]); first | done | rfl | (simp only [List.length_drop, List.length_take]; rfl)) ?_; (with_reducible refine (pebble_Best.calls k (wrap64 (1 + (Int.tmod (wrap64 (a0)) 8))) (wrap64 ((Int.tmod (wrap64 (a1)) 8) + 1)) t254 t255 _ A6.out).mono ?_); rintro e w11 ⟨v256, rfl, ho0, hb⟩; refine ⟨_, rfl, ?_⟩; have n0_ := Aside0.mk (Kd.R_elder' (by (with_reducible repeat (first | apply Kd.R_alloc | apply Kd.R_drewN | apply Kd.R_drew)); exact HO253.out) (Kd.R_base ho0) hb); have n1_ := Aside0.mk (Kd.R_lower (Kd.R_new' ho0 (Kd.R_lt (by (with_reducible repeat (first | apply Kd.R_alloc | apply Kd.R_drewN | apply Kd.R_drew)); exact HO253.out))) (below_size (by repeat (first | (with_reducible first | exact HB.out | apply below_alloc | apply pw_below_drewN | apply below_drew1) | exact HB.out)))); have n2_ := Aside0.mk (below_step (by repeat (first | (with_reducible first | exact HB.out | apply below_alloc | apply pw_below_drewN | apply below_drew1) | exact HB.out)) hb); clear HO253; clear HB; have HO253 := n0_; have HO257 := n1_; have HB := n2_; clear n0_ n1_ n2_; (try clear hb); (try clear hb2); (try clear hk); (try clear hi); (try clear ho0)) | ((with_reducible refine gate_callee (f := 24) rfl ?_); refine goesL_ (some 37) rfl rfl Try.func24 (by kernel_rfl) rfl #[.int .i64 (Int.tmod (wrap64 (a1)) 8)] rfl (by (try simp only [List.map_toArray, List.map_cons, List.map_nil]); first | done | rfl | (simp only [List.length_drop, List.length_take]; rfl)) ?_; (with_reducible refine (pebble_Reach.calls (Int.tmod (wrap64 (a1)) 8) t258 _ A7.out).mono ?_); rintro e w' ⟨rfl, ⟨nd, rfl⟩⟩; refine ⟨_, rfl, ?_⟩))
    (try simp only [Act.put, List.setIfInBounds_toArray, List.set_cons_zero, List.set_cons_succ])
    go_cut [80] (fun v80 wc => ∃ (kq : Nat) (x80_7 : Bool), v80 = .bool x80_7 ∧ Aside0 (backsteplaw44_PebbleReach.j0 kq (wrap64 (1 + (Int.tmod (wrap64 (a0)) 8))) (Int.tmod (wrap64 (a1)) 8) t250 t251 x80_7 = some r) ∧ Aside0 (kq ≤ k) ∧ Aside0 (Kd.R (Kd.int .i64) 3 wc w.heap.size (fun _ => True) v252 t250) ∧ Aside0 (Below w.heap.size w wc))
    case first =>
      have H := HC8.out
      clear HC8
      by_cases c12 : (t251 != (decide ((wrap64 (1 + (Int.tmod (wrap64 (a0)) 8))) ≤ t258))) = true
      · rw [if_pos c12] at H
        have c12b0 : (t251 != (decide ((wrap64 (1 + (Int.tmod (wrap64 (a0)) 8))) ≤ t258))) = true := c12
        (try (have c12b1 : decide (t251 = (decide ((wrap64 (1 + (Int.tmod (wrap64 (a0)) 8))) ≤ t258))) = false := by simpa using c12))
        (try (have c12b2 : (t251 == (decide ((wrap64 (1 + (Int.tmod (wrap64 (a0)) 8))) ≤ t258))) = false := by simpa using c12))
        (try (have c12b3 : ¬ (t251 = (decide ((wrap64 (1 + (Int.tmod (wrap64 (a0)) 8))) ≤ t258))) := by simpa using c12))
        clear c12
        (first | rw [c12b0] | (simp only [i64_w, i32_w]; rw [c12b0]) | skip)
        have H' := Aside0.mk H
        clear H
        go_wp2
        go_meet
        case rel => exact ⟨_, (true), (by first | rfl | (simp; done) | (simp [*]; done)), H', ⟨by first | omega | exact Nat.le_refl _⟩, ⟨by (with_reducible repeat (first | apply Kd.R_alloc | apply Kd.R_drewN | apply Kd.R_drew)); exact Kd.R_mono HO253.out (fun _ hk => trivial)⟩, ⟨by repeat (first | (with_reducible first | exact HB.out | apply below_alloc | apply pw_below_drewN | apply below_drew1) | exact HB.out)⟩⟩
      · rw [if_neg c12] at H
        have c12b0 : (t251 != (decide ((wrap64 (1 + (Int.tmod (wrap64 (a0)) 8))) ≤ t258))) = false := by simpa using c12
        (try (have c12b1 : decide (t251 = (decide ((wrap64 (1 + (Int.tmod (wrap64 (a0)) 8))) ≤ t258))) = true := by simpa using c12))
        (try (have c12b2 : (t251 == (decide ((wrap64 (1 + (Int.tmod (wrap64 (a0)) 8))) ≤ t258))) = true := by simpa using c12))
        clear c12
        (first | rw [c12b0] | (simp only [i64_w, i32_w]; rw [c12b0]) | skip)
        by_cases c13 : t251 = true
        · subst c13
          have H1 : (if t255 = true then (if (t254.length : Int) > (t250.length : Int) then (backsteplaw44_PebbleReach.j0 k (wrap64 (1 + (Int.tmod (wrap64 (a0)) 8))) (Int.tmod (wrap64 (a1)) 8) t250 true true) else ((pebble_Reach.f (wrap64 (-(Int.tmod (wrap64 (a1)) 8)))).bind fun t259 => (if t259 = 0 then ((pebble_Reach.f (wrap64 ((Int.tmod (wrap64 (a1)) 8) + 1))).bind fun t260 => (if t260 < t258 then (backsteplaw44_PebbleReach.j0 k (wrap64 (1 + (Int.tmod (wrap64 (a0)) 8))) (Int.tmod (wrap64 (a1)) 8) t250 true true) else (if (Int.tmod (wrap64 (a1)) 8) ≥ 1 then (if 0 ≤ (wrap64 ((Int.tmod (wrap64 (a1)) 8) - 1)) then (backsteplaw44_PebbleReach.j0 k (wrap64 (1 + (Int.tmod (wrap64 (a0)) 8))) (Int.tmod (wrap64 (a1)) 8) t250 true (t258 != (shl .i64 1 (wrap64 ((Int.tmod (wrap64 (a1)) 8) - 1))))) else (none)) else (backsteplaw44_PebbleReach.j0 k (wrap64 (1 + (Int.tmod (wrap64 (a0)) 8))) (Int.tmod (wrap64 (a1)) 8) t250 true false)))) else (backsteplaw44_PebbleReach.j0 k (wrap64 (1 + (Int.tmod (wrap64 (a0)) 8))) (Int.tmod (wrap64 (a1)) 8) t250 true true)))) else (backsteplaw44_PebbleReach.j0 k (wrap64 (1 + (Int.tmod (wrap64 (a0)) 8))) (Int.tmod (wrap64 (a1)) 8) t250 true true)) = some r := by rw [if_pos rfl] at H; exact H
          clear H
          have H := H1
          clear H1
          by_cases c14 : t255 = true
          · subst c14
            have H1 : (if (t254.length : Int) > (t250.length : Int) then (backsteplaw44_PebbleReach.j0 k (wrap64 (1 + (Int.tmod (wrap64 (a0)) 8))) (Int.tmod (wrap64 (a1)) 8) t250 true true) else ((pebble_Reach.f (wrap64 (-(Int.tmod (wrap64 (a1)) 8)))).bind fun t259 => (if t259 = 0 then ((pebble_Reach.f (wrap64 ((Int.tmod (wrap64 (a1)) 8) + 1))).bind fun t260 => (if t260 < t258 then (backsteplaw44_PebbleReach.j0 k (wrap64 (1 + (Int.tmod (wrap64 (a0)) 8))) (Int.tmod (wrap64 (a1)) 8) t250 true true) else (if (Int.tmod (wrap64 (a1)) 8) ≥ 1 then (if 0 ≤ (wrap64 ((Int.tmod (wrap64 (a1)) 8) - 1)) then (backsteplaw44_PebbleReach.j0 k (wrap64 (1 + (Int.tmod (wrap64 (a0)) 8))) (Int.tmod (wrap64 (a1)) 8) t250 true (t258 != (shl .i64 1 (wrap64 ((Int.tmod (wrap64 (a1)) 8) - 1))))) else (none)) else (backsteplaw44_PebbleReach.j0 k (wrap64 (1 + (Int.tmod (wrap64 (a0)) 8))) (Int.tmod (wrap64 (a1)) 8) t250 true false)))) else (backsteplaw44_PebbleReach.j0 k (wrap64 (1 + (Int.tmod (wrap64 (a0)) 8))) (Int.tmod (wrap64 (a1)) 8) t250 true true)))) = some r := by rw [if_pos rfl] at H; exact H
            clear H
            have H := H1
            clear H1
            by_cases c15 : (t254.length : Int) > (t250.length : Int)
            · rw [if_pos c15] at H
              have c15b0 : decide ((t250.length : Int) < (t254.length : Int)) = true := decide_eq_true c15
              have c15b1 : decide (t250.length < t254.length) = true := decide_eq_true (Int.ofNat_lt.mp c15)
              clear c15
              have H' := Aside0.mk H
              clear H
              obtain ⟨Ao16, co16, eo16⟩ := Kd.R_slice HO257.out
              subst eo16
              obtain ⟨Ao17, co17, eo17⟩ := Kd.R_slice HO253.out
              subst eo17
              go_wp2
              go_meet
              case rel => exact ⟨_, (true), (by first | rfl | (simp; done) | (simp [*]; done)), H', ⟨by first | omega | exact Nat.le_refl _⟩, ⟨by (with_reducible repeat (first | apply Kd.R_alloc | apply Kd.R_drewN | apply Kd.R_drew)); exact Kd.R_mono HO253.out (fun _ hk => trivial)⟩, ⟨by repeat (first | (with_reducible first | exact HB.out | apply below_alloc | apply pw_below_drewN | apply below_drew1) | exact HB.out)⟩⟩
            · rw [if_neg c15] at H
              have c15b0 : decide ((t250.length : Int) < (t254.length : Int)) = false := decide_eq_false c15
              have c15b1 : decide (t250.length < t254.length) = false := decide_eq_false (fun h => c15 (Int.ofNat_lt.mpr h))
              clear c15
              replace H := Option.bind_eq_some_iff.mp H
              obtain ⟨t259, A180, H⟩ := H
              replace H : (if t259 = 0 then ((pebble_Reach.f (wrap64 ((Int.tmod (wrap64 (a1)) 8) + 1))).bind fun t260 => (if t260 < t258 then (backsteplaw44_PebbleReach.j0 k (wrap64 (1 + (Int.tmod (wrap64 (a0)) 8))) (Int.tmod (wrap64 (a1)) 8) t250 true true) else (if (Int.tmod (wrap64 (a1)) 8) ≥ 1 then (if 0 ≤ (wrap64 ((Int.tmod (wrap64 (a1)) 8) - 1)) then (backsteplaw44_PebbleReach.j0 k (wrap64 (1 + (Int.tmod (wrap64 (a0)) 8))) (Int.tmod (wrap64 (a1)) 8) t250 true (t258 != (shl .i64 1 (wrap64 ((Int.tmod (wrap64 (a1)) 8) - 1))))) else (none)) else (backsteplaw44_PebbleReach.j0 k (wrap64 (1 + (Int.tmod (wrap64 (a0)) 8))) (Int.tmod (wrap64 (a1)) 8) t250 true false)))) else (backsteplaw44_PebbleReach.j0 k (wrap64 (1 + (Int.tmod (wrap64 (a0)) 8))) (Int.tmod (wrap64 (a1)) 8) t250 true true)) = some r := H
              have A18 := Aside0.mk A180
              clear A180
              by_cases c19 : t259 = 0
              · rw [if_pos c19] at H
                have c19b0 : (t259 == 0) = true := beq_iff_eq.mpr c19
                have c19b1 : (t259 != 0) = false := bne_eq_false_iff_eq.mpr c19
                clear c19
                replace H := Option.bind_eq_some_iff.mp H
                obtain ⟨t260, A200, H⟩ := H
                replace H : (if t260 < t258 then (backsteplaw44_PebbleReach.j0 k (wrap64 (1 + (Int.tmod (wrap64 (a0)) 8))) (Int.tmod (wrap64 (a1)) 8) t250 true true) else (if (Int.tmod (wrap64 (a1)) 8) ≥ 1 then (if 0 ≤ (wrap64 ((Int.tmod (wrap64 (a1)) 8) - 1)) then (backsteplaw44_PebbleReach.j0 k (wrap64 (1 + (Int.tmod (wrap64 (a0)) 8))) (Int.tmod (wrap64 (a1)) 8) t250 true (t258 != (shl .i64 1 (wrap64 ((Int.tmod (wrap64 (a1)) 8) - 1))))) else (none)) else (backsteplaw44_PebbleReach.j0 k (wrap64 (1 + (Int.tmod (wrap64 (a0)) 8))) (Int.tmod (wrap64 (a1)) 8) t250 true false))) = some r := H
                have A20 := Aside0.mk A200
                clear A200
                by_cases c21 : t260 < t258
                · rw [if_pos c21] at H
                  have c21b0 : decide (t260 < t258) = true := decide_eq_true c21
                  clear c21
                  have H' := Aside0.mk H
                  clear H
                  obtain ⟨Ao22, co22, eo22⟩ := Kd.R_slice HO257.out
                  subst eo22
                  obtain ⟨Ao23, co23, eo23⟩ := Kd.R_slice HO253.out
                  subst eo23
                  go_wp2_with (first | (go_at_call 24; (with_reducible refine (pebble_Reach.calls (wrap64 (-(Int.tmod (wrap64 (a1)) 8))) t259 _ A18.out).mono ?_); rintro e w' ⟨rfl, ⟨nd, rfl⟩⟩) | (go_at_call 24; (with_reducible refine (pebble_Reach.calls (wrap64 ((Int.tmod (wrap64 (a1)) 8) + 1)) t260 _ A20.out).mono ?_); rintro e w' ⟨rfl, ⟨nd, rfl⟩⟩))
                  go_meet
                  case rel => exact ⟨_, (true), (by first | rfl | (simp; done) | (simp [*]; done)), H', ⟨by first | omega | exact Nat.le_refl _⟩, ⟨by (with_reducible repeat (first | apply Kd.R_alloc | apply Kd.R_drewN | apply Kd.R_drew)); exact Kd.R_mono HO253.out (fun _ hk => trivial)⟩, ⟨by repeat (first | (with_reducible first | exact HB.out | apply below_alloc | apply pw_below_drewN | apply below_drew1) | exact HB.out)⟩⟩
                · rw [if_neg c21] at H
                  have c21b0 : decide (t260 < t258) = false := decide_eq_false c21
                  clear c21
                  by_cases c24 : (Int.tmod (wrap64 (a1)) 8) ≥ 1
                  · rw [if_pos c24] at H
                    have c24b0 : decide (1 ≤ (Int.tmod (wrap64 (a1)) 8)) = true := decide_eq_true c24
                    clear c24
                    obtain ⟨ji25, hji25⟩ : ∃ j_ : Int, (wrap64 ((Int.tmod (wrap64 (a1)) 8) - 1)) = j_ := ⟨_, rfl⟩
                    replace H : (if 0 ≤ (ji25) then (backsteplaw44_PebbleReach.j0 k (wrap64 (1 + (Int.tmod (wrap64 (a0)) 8))) (Int.tmod (wrap64 (a1)) 8) t250 true (t258 != (shl .i64 1 (ji25)))) else (none)) = some r := by first | (rw [hji25] at H; exact H) | (simp only [hji25] at H ⊢; exact H)
                    (try rw [hji25] at A18)
                    (try rw [hji25] at A20)
                    have hji25w : (IntKind.i64.wrap ((Int.tmod (wrap64 (a1)) 8) - 1)) = ji25 := (i64_w _).trans hji25
                    by_cases c26 : 0 ≤ (ji25)
                    · rw [if_pos c26] at H
                      have c26b0 := eq_true c26
                      have c26b1 : decide (0 ≤ (ji25)) = true := decide_eq_true c26
                      clear c26
                      obtain ⟨ji27, hji27⟩ : ∃ j_ : Int, (shl .i64 1 (ji25)) = j_ := ⟨_, rfl⟩
                      replace H : (backsteplaw44_PebbleReach.j0 k (wrap64 (1 + (Int.tmod (wrap64 (a0)) 8))) (Int.tmod (wrap64 (a1)) 8) t250 true (t258 != (ji27))) = some r := by first | (rw [hji27] at H; exact H) | (simp only [hji27] at H ⊢; exact H)
                      (try rw [hji27] at A18)
                      (try rw [hji27] at A20)
                      have hji27_ : (IntKind.i64.wrap (1 * 2 ^ min (ji25).toNat 64)) = ji27 := hji27
                      have hji27z : (ji25) ≤ 64 → (IntKind.i64.wrap (1 * 2 ^ (ji25).toNat)) = ji27 := shl_small hji27
                      have hji27u : (IntKind.i64.wrap (2 ^ min (ji25).toNat 64)) = ji27 := by have h_ := hji27_; rw [Int.one_mul] at h_; exact h_
                      have hji27v : (ji25) ≤ 64 → (IntKind.i64.wrap (2 ^ (ji25).toNat)) = ji27 := fun hle_ => by have h_ := hji27z hle_; rw [Int.one_mul] at h_; exact h_
                      have hji27y : (wrap64 (1 * 2 ^ min (ji25).toNat 64)) = ji27 := (i64_w _).symm.trans hji27_
                      have hji27x : (ji25) ≤ 64 → (wrap64 (1 * 2 ^ (ji25).toNat)) = ji27 := fun h_ => (i64_w _).symm.trans (hji27z h_)
                      have H' := Aside0.mk H
                      clear H
                      obtain ⟨Ao28, co28, eo28⟩ := Kd.R_slice HO257.out
                      subst eo28
                      obtain ⟨Ao29, co29, eo29⟩ := Kd.R_slice HO253.out
                      subst eo29
                      go_wp2_with (first | (go_at_call 24; (with_reducible refine (pebble_Reach.calls (wrap64 (-(Int.tmod (wrap64 (a1)) 8))) t259 _ A18.out).mono ?_); rintro e w' ⟨rfl, ⟨nd, rfl⟩⟩) | (go_at_call 24; (with_reducible refine (pebble_Reach.calls (wrap64 ((Int.tmod (wrap64 (a1)) 8) + 1)) t260 _ A20.out).mono ?_); rintro e w' ⟨rfl, ⟨nd, rfl⟩⟩))
                      go_meet
                      case rel => exact ⟨_, ((t258 != (ji27))), (by first | rfl | (simp; done) | (simp only [← hji27] <;> (first | rfl | simp)) | (simp [*]; done)), H', ⟨by first | omega | exact Nat.le_refl _⟩, ⟨by (with_reducible repeat (first | apply Kd.R_alloc | apply Kd.R_drewN | apply Kd.R_drew)); exact Kd.R_mono HO253.out (fun _ hk => trivial)⟩, ⟨by repeat (first | (with_reducible first | exact HB.out | apply below_alloc | apply pw_below_drewN | apply below_drew1) | exact HB.out)⟩⟩
                    · rw [if_neg c26] at H
                      exact absurd H (by simp)
                  · rw [if_neg c24] at H
                    have c24b0 : decide (1 ≤ (Int.tmod (wrap64 (a1)) 8)) = false := decide_eq_false c24
                    clear c24
                    have H' := Aside0.mk H
                    clear H
                    obtain ⟨Ao30, co30, eo30⟩ := Kd.R_slice HO257.out
                    subst eo30
                    obtain ⟨Ao31, co31, eo31⟩ := Kd.R_slice HO253.out
                    subst eo31
                    go_wp2_with (first | (go_at_call 24; (with_reducible refine (pebble_Reach.calls (wrap64 (-(Int.tmod (wrap64 (a1)) 8))) t259 _ A18.out).mono ?_); rintro e w' ⟨rfl, ⟨nd, rfl⟩⟩) | (go_at_call 24; (with_reducible refine (pebble_Reach.calls (wrap64 ((Int.tmod (wrap64 (a1)) 8) + 1)) t260 _ A20.out).mono ?_); rintro e w' ⟨rfl, ⟨nd, rfl⟩⟩))
                    go_meet
                    case rel => exact ⟨_, (false), (by first | rfl | (simp; done) | (simp [*]; done)), H', ⟨by first | omega | exact Nat.le_refl _⟩, ⟨by (with_reducible repeat (first | apply Kd.R_alloc | apply Kd.R_drewN | apply Kd.R_drew)); exact Kd.R_mono HO253.out (fun _ hk => trivial)⟩, ⟨by repeat (first | (with_reducible first | exact HB.out | apply below_alloc | apply pw_below_drewN | apply below_drew1) | exact HB.out)⟩⟩
              · rw [if_neg c19] at H
                have c19b0 : (t259 == 0) = false := beq_eq_false_iff_ne.mpr c19
                have c19b1 : (t259 != 0) = true := bne_iff_ne.mpr c19
                have H' := Aside0.mk H
                clear H
                obtain ⟨Ao32, co32, eo32⟩ := Kd.R_slice HO257.out
                subst eo32
                obtain ⟨Ao33, co33, eo33⟩ := Kd.R_slice HO253.out
                subst eo33
                go_wp2_with (first | (go_at_call 24; (with_reducible refine (pebble_Reach.calls (wrap64 (-(Int.tmod (wrap64 (a1)) 8))) t259 _ A18.out).mono ?_); rintro e w' ⟨rfl, ⟨nd, rfl⟩⟩))
                go_meet
                case rel => exact ⟨_, (true), (by first | rfl | (simp; done) | (simp [*]; done)), H', ⟨by first | omega | exact Nat.le_refl _⟩, ⟨by (with_reducible repeat (first | apply Kd.R_alloc | apply Kd.R_drewN | apply Kd.R_drew)); exact Kd.R_mono HO253.out (fun _ hk => trivial)⟩, ⟨by repeat (first | (with_reducible first | exact HB.out | apply below_alloc | apply pw_below_drewN | apply below_drew1) | exact HB.out)⟩⟩
          · replace c14 := Bool.eq_false_iff.mpr c14
            subst c14
            have H1 : (backsteplaw44_PebbleReach.j0 k (wrap64 (1 + (Int.tmod (wrap64 (a0)) 8))) (Int.tmod (wrap64 (a1)) 8) t250 true true) = some r := by rw [if_neg (show ¬ (false = true) by decide)] at H; exact H
            clear H
            have H := H1
            clear H1
            have H' := Aside0.mk H
            clear H
            go_wp2
            go_meet
            case rel => exact ⟨_, (true), (by first | rfl | (simp; done) | (simp [*]; done)), H', ⟨by first | omega | exact Nat.le_refl _⟩, ⟨by (with_reducible repeat (first | apply Kd.R_alloc | apply Kd.R_drewN | apply Kd.R_drew)); exact Kd.R_mono HO253.out (fun _ hk => trivial)⟩, ⟨by repeat (first | (with_reducible first | exact HB.out | apply below_alloc | apply pw_below_drewN | apply below_drew1) | exact HB.out)⟩⟩
        · replace c13 := Bool.eq_false_iff.mpr c13
          subst c13
          have H1 : ((pebble_Reach.f (wrap64 (-(Int.tmod (wrap64 (a1)) 8)))).bind fun t261 => (if t261 = 0 then ((pebble_Reach.f (wrap64 ((Int.tmod (wrap64 (a1)) 8) + 1))).bind fun t262 => (if t262 < t258 then (backsteplaw44_PebbleReach.j0 k (wrap64 (1 + (Int.tmod (wrap64 (a0)) 8))) (Int.tmod (wrap64 (a1)) 8) t250 false true) else (if (Int.tmod (wrap64 (a1)) 8) ≥ 1 then (if 0 ≤ (wrap64 ((Int.tmod (wrap64 (a1)) 8) - 1)) then (backsteplaw44_PebbleReach.j0 k (wrap64 (1 + (Int.tmod (wrap64 (a0)) 8))) (Int.tmod (wrap64 (a1)) 8) t250 false (t258 != (shl .i64 1 (wrap64 ((Int.tmod (wrap64 (a1)) 8) - 1))))) else (none)) else (backsteplaw44_PebbleReach.j0 k (wrap64 (1 + (Int.tmod (wrap64 (a0)) 8))) (Int.tmod (wrap64 (a1)) 8) t250 false false)))) else (backsteplaw44_PebbleReach.j0 k (wrap64 (1 + (Int.tmod (wrap64 (a0)) 8))) (Int.tmod (wrap64 (a1)) 8) t250 false true))) = some r := by rw [if_neg (show ¬ (false = true) by decide)] at H; exact H
          clear H
          have H := H1
          clear H1
          replace H := Option.bind_eq_some_iff.mp H
          obtain ⟨t261, A340, H⟩ := H
          replace H : (if t261 = 0 then ((pebble_Reach.f (wrap64 ((Int.tmod (wrap64 (a1)) 8) + 1))).bind fun t262 => (if t262 < t258 then (backsteplaw44_PebbleReach.j0 k (wrap64 (1 + (Int.tmod (wrap64 (a0)) 8))) (Int.tmod (wrap64 (a1)) 8) t250 false true) else (if (Int.tmod (wrap64 (a1)) 8) ≥ 1 then (if 0 ≤ (wrap64 ((Int.tmod (wrap64 (a1)) 8) - 1)) then (backsteplaw44_PebbleReach.j0 k (wrap64 (1 + (Int.tmod (wrap64 (a0)) 8))) (Int.tmod (wrap64 (a1)) 8) t250 false (t258 != (shl .i64 1 (wrap64 ((Int.tmod (wrap64 (a1)) 8) - 1))))) else (none)) else (backsteplaw44_PebbleReach.j0 k (wrap64 (1 + (Int.tmod (wrap64 (a0)) 8))) (Int.tmod (wrap64 (a1)) 8) t250 false false)))) else (backsteplaw44_PebbleReach.j0 k (wrap64 (1 + (Int.tmod (wrap64 (a0)) 8))) (Int.tmod (wrap64 (a1)) 8) t250 false true)) = some r := H
          have A34 := Aside0.mk A340
          clear A340
          by_cases c35 : t261 = 0
          · rw [if_pos c35] at H
            have c35b0 : (t261 == 0) = true := beq_iff_eq.mpr c35
            have c35b1 : (t261 != 0) = false := bne_eq_false_iff_eq.mpr c35
            clear c35
            replace H := Option.bind_eq_some_iff.mp H
            obtain ⟨t262, A360, H⟩ := H
            replace H : (if t262 < t258 then (backsteplaw44_PebbleReach.j0 k (wrap64 (1 + (Int.tmod (wrap64 (a0)) 8))) (Int.tmod (wrap64 (a1)) 8) t250 false true) else (if (Int.tmod (wrap64 (a1)) 8) ≥ 1 then (if 0 ≤ (wrap64 ((Int.tmod (wrap64 (a1)) 8) - 1)) then (backsteplaw44_PebbleReach.j0 k (wrap64 (1 + (Int.tmod (wrap64 (a0)) 8))) (Int.tmod (wrap64 (a1)) 8) t250 false (t258 != (shl .i64 1 (wrap64 ((Int.tmod (wrap64 (a1)) 8) - 1))))) else (none)) else (backsteplaw44_PebbleReach.j0 k (wrap64 (1 + (Int.tmod (wrap64 (a0)) 8))) (Int.tmod (wrap64 (a1)) 8) t250 false false))) = some r := H
            have A36 := Aside0.mk A360
            clear A360
            by_cases c37 : t262 < t258
            · rw [if_pos c37] at H
              have c37b0 : decide (t262 < t258) = true := decide_eq_true c37
              clear c37
              have H' := Aside0.mk H
              clear H
              go_wp2_with (first | (go_at_call 24; (with_reducible refine (pebble_Reach.calls (wrap64 (-(Int.tmod (wrap64 (a1)) 8))) t261 _ A34.out).mono ?_); rintro e w' ⟨rfl, ⟨nd, rfl⟩⟩) | (go_at_call 24; (with_reducible refine (pebble_Reach.calls (wrap64 ((Int.tmod (wrap64 (a1)) 8) + 1)) t262 _ A36.out).mono ?_); rintro e w' ⟨rfl, ⟨nd, rfl⟩⟩))
              go_meet
              case rel => exact ⟨_, (true), (by first | rfl | (simp; done) | (simp [*]; done)), H', ⟨by first | omega | exact Nat.le_refl _⟩, ⟨by (with_reducible repeat (first | apply Kd.R_alloc | apply Kd.R_drewN | apply Kd.R_drew)); exact Kd.R_mono HO253.out (fun _ hk => trivial)⟩, ⟨by repeat (first | (with_reducible first | exact HB.out | apply below_alloc | apply pw_below_drewN | apply below_drew1) | exact HB.out)⟩⟩
            · rw [if_neg c37] at H
              have c37b0 : decide (t262 < t258) = false := decide_eq_false c37
              clear c37
              by_cases c38 : (Int.tmod (wrap64 (a1)) 8) ≥ 1
              · rw [if_pos c38] at H
                have c38b0 : decide (1 ≤ (Int.tmod (wrap64 (a1)) 8)) = true := decide_eq_true c38
                clear c38
                obtain ⟨ji39, hji39⟩ : ∃ j_ : Int, (wrap64 ((Int.tmod (wrap64 (a1)) 8) - 1)) = j_ := ⟨_, rfl⟩
                replace H : (if 0 ≤ (ji39) then (backsteplaw44_PebbleReach.j0 k (wrap64 (1 + (Int.tmod (wrap64 (a0)) 8))) (Int.tmod (wrap64 (a1)) 8) t250 false (t258 != (shl .i64 1 (ji39)))) else (none)) = some r := by first | (rw [hji39] at H; exact H) | (simp only [hji39] at H ⊢; exact H)
                (try rw [hji39] at A34)
                (try rw [hji39] at A36)
                have hji39w : (IntKind.i64.wrap ((Int.tmod (wrap64 (a1)) 8) - 1)) = ji39 := (i64_w _).trans hji39
                by_cases c40 : 0 ≤ (ji39)
                · rw [if_pos c40] at H
                  have c40b0 := eq_true c40
                  have c40b1 : decide (0 ≤ (ji39)) = true := decide_eq_true c40
                  clear c40
                  obtain ⟨ji41, hji41⟩ : ∃ j_ : Int, (shl .i64 1 (ji39)) = j_ := ⟨_, rfl⟩
                  replace H : (backsteplaw44_PebbleReach.j0 k (wrap64 (1 + (Int.tmod (wrap64 (a0)) 8))) (Int.tmod (wrap64 (a1)) 8) t250 false (t258 != (ji41))) = some r := by first | (rw [hji41] at H; exact H) | (simp only [hji41] at H ⊢; exact H)
                  (try rw [hji41] at A34)
                  (try rw [hji41] at A36)
                  have hji41_ : (IntKind.i64.wrap (1 * 2 ^ min (ji39).toNat 64)) = ji41 := hji41
                  have hji41z : (ji39) ≤ 64 → (IntKind.i64.wrap (1 * 2 ^ (ji39).toNat)) = ji41 := shl_small hji41
                  have hji41u : (IntKind.i64.wrap (2 ^ min (ji39).toNat 64)) = ji41 := by have h_ := hji41_; rw [Int.one_mul] at h_; exact h_
                  have hji41v : (ji39) ≤ 64 → (IntKind.i64.wrap (2 ^ (ji39).toNat)) = ji41 := fun hle_ => by have h_ := hji41z hle_; rw [Int.one_mul] at h_; exact h_
                  have hji41y : (wrap64 (1 * 2 ^ min (ji39).toNat 64)) = ji41 := (i64_w _).symm.trans hji41_
                  have hji41x : (ji39) ≤ 64 → (wrap64 (1 * 2 ^ (ji39).toNat)) = ji41 := fun h_ => (i64_w _).symm.trans (hji41z h_)
                  have H' := Aside0.mk H
                  clear H
                  go_wp2_with (first | (go_at_call 24; (with_reducible refine (pebble_Reach.calls (wrap64 (-(Int.tmod (wrap64 (a1)) 8))) t261 _ A34.out).mono ?_); rintro e w' ⟨rfl, ⟨nd, rfl⟩⟩) | (go_at_call 24; (with_reducible refine (pebble_Reach.calls (wrap64 ((Int.tmod (wrap64 (a1)) 8) + 1)) t262 _ A36.out).mono ?_); rintro e w' ⟨rfl, ⟨nd, rfl⟩⟩))
                  go_meet
                  case rel => exact ⟨_, ((t258 != (ji41))), (by first | rfl | (simp; done) | (simp only [← hji41] <;> (first | rfl | simp)) | (simp [*]; done)), H', ⟨by first | omega | exact Nat.le_refl _⟩, ⟨by (with_reducible repeat (first | apply Kd.R_alloc | apply Kd.R_drewN | apply Kd.R_drew)); exact Kd.R_mono HO253.out (fun _ hk => trivial)⟩, ⟨by repeat (first | (with_reducible first | exact HB.out | apply below_alloc | apply pw_below_drewN | apply below_drew1) | exact HB.out)⟩⟩
                · rw [if_neg c40] at H
                  exact absurd H (by simp)
              · rw [if_neg c38] at H
                have c38b0 : decide (1 ≤ (Int.tmod (wrap64 (a1)) 8)) = false := decide_eq_false c38
                clear c38
                have H' := Aside0.mk H
                clear H
                go_wp2_with (first | (go_at_call 24; (with_reducible refine (pebble_Reach.calls (wrap64 (-(Int.tmod (wrap64 (a1)) 8))) t261 _ A34.out).mono ?_); rintro e w' ⟨rfl, ⟨nd, rfl⟩⟩) | (go_at_call 24; (with_reducible refine (pebble_Reach.calls (wrap64 ((Int.tmod (wrap64 (a1)) 8) + 1)) t262 _ A36.out).mono ?_); rintro e w' ⟨rfl, ⟨nd, rfl⟩⟩))
                go_meet
                case rel => exact ⟨_, (false), (by first | rfl | (simp; done) | (simp [*]; done)), H', ⟨by first | omega | exact Nat.le_refl _⟩, ⟨by (with_reducible repeat (first | apply Kd.R_alloc | apply Kd.R_drewN | apply Kd.R_drew)); exact Kd.R_mono HO253.out (fun _ hk => trivial)⟩, ⟨by repeat (first | (with_reducible first | exact HB.out | apply below_alloc | apply pw_below_drewN | apply below_drew1) | exact HB.out)⟩⟩
          · rw [if_neg c35] at H
            have c35b0 : (t261 == 0) = false := beq_eq_false_iff_ne.mpr c35
            have c35b1 : (t261 != 0) = true := bne_iff_ne.mpr c35
            have H' := Aside0.mk H
            clear H
            go_wp2_with (first | (go_at_call 24; (with_reducible refine (pebble_Reach.calls (wrap64 (-(Int.tmod (wrap64 (a1)) 8))) t261 _ A34.out).mono ?_); rintro e w' ⟨rfl, ⟨nd, rfl⟩⟩))
            go_meet
            case rel => exact ⟨_, (true), (by first | rfl | (simp; done) | (simp [*]; done)), H', ⟨by first | omega | exact Nat.le_refl _⟩, ⟨by (with_reducible repeat (first | apply Kd.R_alloc | apply Kd.R_drewN | apply Kd.R_drew)); exact Kd.R_mono HO253.out (fun _ hk => trivial)⟩, ⟨by repeat (first | (with_reducible first | exact HB.out | apply below_alloc | apply pw_below_drewN | apply below_drew1) | exact HB.out)⟩⟩
    case rest =>
      clear HC8
      try clear c1
      try clear c2
      try clear p2
      try clear c3
      try clear c4
      try clear p6
      try clear c10
      try clear c11
      try clear c12
      try clear c12b0
      try clear c12b1
      try clear c12b2
      try clear c13
      try clear c14
      try clear c15
      try clear c15b0
      try clear c15b1
      try clear c19
      try clear c19b0
      try clear c19b1
      try clear c21
      try clear c21b0
      try clear c24
      try clear c24b0
      try clear c26
      try clear c26b0
      try clear c26b1
      try clear c35
      try clear c35b0
      try clear c35b1
      try clear c37
      try clear c37b0
      try clear c38
      try clear c38b0
      try clear c40
      try clear c40b0
      try clear c40b1
      obtain ⟨kq, x80_7, rfl, HA, HJ7, HO_7, HB⟩ := hcut
      cases kq with
      | zero => exact absurd HA.out (by simp [backsteplaw44_PebbleReach.j0])
      | succ kj7 =>
        have H := HA.out
        clear HA
        simp only [backsteplaw44_PebbleReach.j0] at H
        by_cases c42 : x80_7 = true
        · subst c42
          have H1 : (some false) = some r := by rw [if_pos rfl] at H; exact H
          clear H
          have H := H1
          clear H1
          obtain rfl := Option.some.inj H
          go_wp2
          go_ret
          exact ⟨by first | rfl | (simp [errW_none, errW_some] <;> rfl) | (simp [*, errW_none, errW_some] <;> rfl), by repeat (first | (with_reducible first | exact HB.out | apply below_alloc | apply pw_below_drewN | apply below_drew1) | exact HB.out)⟩
        · replace c42 := Bool.eq_false_iff.mpr c42
          subst c42
          have H1 : (if t251 = true then ((pebble_Legal.f (wrap64 (1 + (Int.tmod (wrap64 (a0)) 8))) t250).bind fun bt263 => (if bt263.2 = true then (if bt263.1 = (t250.length : Int) then ((pebble_Peak.f kj7 t250).bind fun t265 => (some (decide (t265 ≤ (Int.tmod (wrap64 (a1)) 8))))) else (some false)) else (some false))) else (some ((t250.length : Int) == 0))) = some r := by rw [if_neg (show ¬ (false = true) by decide)] at H; exact H
          clear H
          have H := H1
          clear H1
          by_cases c43 : t251 = true
          · subst c43
            have H1 : ((pebble_Legal.f (wrap64 (1 + (Int.tmod (wrap64 (a0)) 8))) t250).bind fun bt263 => (if bt263.2 = true then (if bt263.1 = (t250.length : Int) then ((pebble_Peak.f kj7 t250).bind fun t265 => (some (decide (t265 ≤ (Int.tmod (wrap64 (a1)) 8))))) else (some false)) else (some false))) = some r := by rw [if_pos rfl] at H; exact H
            clear H
            have H := H1
            clear H1
            replace H := Option.bind_eq_some_iff.mp H
            obtain ⟨⟨t263, t264⟩, A440, H⟩ := H
            replace H : (if t264 = true then (if t263 = (t250.length : Int) then ((pebble_Peak.f kj7 t250).bind fun t265 => (some (decide (t265 ≤ (Int.tmod (wrap64 (a1)) 8))))) else (some false)) else (some false)) = some r := H
            have A44 := Aside0.mk A440
            clear A440
            by_cases c45 : t264 = true
            · subst c45
              have H1 : (if t263 = (t250.length : Int) then ((pebble_Peak.f kj7 t250).bind fun t265 => (some (decide (t265 ≤ (Int.tmod (wrap64 (a1)) 8))))) else (some false)) = some r := by rw [if_pos rfl] at H; exact H
              clear H
              have H := H1
              clear H1
              by_cases c46 : t263 = (t250.length : Int)
              · rw [if_pos c46] at H
                have c46b0 : (t263 == (t250.length : Int)) = true := beq_iff_eq.mpr c46
                have c46b1 : (t263 != (t250.length : Int)) = false := bne_eq_false_iff_eq.mpr c46
                clear c46
                replace H := Option.bind_eq_some_iff.mp H
                obtain ⟨t265, A470, H⟩ := H
                replace H : (some (decide (t265 ≤ (Int.tmod (wrap64 (a1)) 8)))) = some r := H
                have A47 := Aside0.mk A470
                clear A470
                obtain rfl := Option.some.inj H
                obtain ⟨Ao48, co48, eo48⟩ := Kd.R_slice HO_7.out
                subst eo48
                go_wp2_with (first | ((with_reducible refine gate_callee (f := 18) rfl ?_); refine goesL_ (some 89) rfl rfl Try.func18 (by kernel_rfl) rfl #[.int .i64 (wrap64 (1 + (Int.tmod (wrap64 (a0)) 8))), .slice Ao48 t250.length co48] rfl (by (try simp only [List.map_toArray, List.map_cons, List.map_nil]); first | done | rfl | (simp only [List.length_drop, List.length_take]; rfl)) ?_; (with_reducible refine (pebble_Legal.calls (wrap64 (1 + (Int.tmod (wrap64 (a0)) 8))) _ _ t250 t263 true _ ?side1 ?side2 A44.out).mono ?_); (case side1 => repeat (first | exact (Kd.R_reads' HO_7.out).2.2 | (with_reducible refine Kd.C_alloc ?_ _) | (with_reducible refine Kd.C_drewN ?_ _) | (with_reducible refine Kd.C_drew ?_))); (case side2 => exact (Kd.R_reads' HO_7.out).2.1); rintro e w49 ⟨rfl, hb⟩; refine ⟨_, rfl, ?_⟩; have n0_ := Aside0.mk (Kd.R_below (by (with_reducible repeat (first | apply Kd.R_alloc | apply Kd.R_drewN | apply Kd.R_drew)); exact HO_7.out) hb); have n1_ := Aside0.mk (below_step (by repeat (first | (with_reducible first | exact HB.out | apply below_alloc | apply pw_below_drewN | apply below_drew1) | exact HB.out)) hb); clear HO_7; clear HB; have HO_7 := n0_; have HB := n1_; clear n0_ n1_; (try clear hb); (try clear hb2); (try clear hk); (try clear hi)) | (go_at_call 20; (with_reducible refine (pebble_Peak.calls kj7 _ _ t250 t265 _ ?side1 ?side2 A47.out).mono ?_); (case side1 => repeat (first | exact (Kd.R_reads' HO_7.out).2.2 | (with_reducible refine Kd.C_alloc ?_ _) | (with_reducible refine Kd.C_drewN ?_ _) | (with_reducible refine Kd.C_drew ?_))); (case side2 => exact (Kd.R_reads' HO_7.out).2.1); rintro e w50 ⟨rfl, hb⟩; have n0_ := Aside0.mk (Kd.R_below (by (with_reducible repeat (first | apply Kd.R_alloc | apply Kd.R_drewN | apply Kd.R_drew)); exact HO_7.out) hb); have n1_ := Aside0.mk (below_step (by repeat (first | (with_reducible first | exact HB.out | apply below_alloc | apply pw_below_drewN | apply below_drew1) | exact HB.out)) hb); clear HO_7; clear HB; have HO_7 := n0_; have HB := n1_; clear n0_ n1_; (try clear hb); (try clear hb2); (try clear hk); (try clear hi)))
                go_ret
                exact ⟨by first | rfl | (simp [errW_none, errW_some] <;> rfl) | (simp [*, errW_none, errW_some] <;> rfl), by repeat (first | (with_reducible first | exact HB.out | apply below_alloc | apply pw_below_drewN | apply below_drew1) | exact HB.out)⟩
              · rw [if_neg c46] at H
                have c46b0 : (t263 == (t250.length : Int)) = false := beq_eq_false_iff_ne.mpr c46
                have c46b1 : (t263 != (t250.length : Int)) = true := bne_iff_ne.mpr c46
                obtain rfl := Option.some.inj H
                obtain ⟨Ao51, co51, eo51⟩ := Kd.R_slice HO_7.out
                subst eo51
                go_wp2_with (first | ((with_reducible refine gate_callee (f := 18) rfl ?_); refine goesL_ (some 89) rfl rfl Try.func18 (by kernel_rfl) rfl #[.int .i64 (wrap64 (1 + (Int.tmod (wrap64 (a0)) 8))), .slice Ao51 t250.length co51] rfl (by (try simp only [List.map_toArray, List.map_cons, List.map_nil]); first | done | rfl | (simp only [List.length_drop, List.length_take]; rfl)) ?_; (with_reducible refine (pebble_Legal.calls (wrap64 (1 + (Int.tmod (wrap64 (a0)) 8))) _ _ t250 t263 true _ ?side1 ?side2 A44.out).mono ?_); (case side1 => repeat (first | exact (Kd.R_reads' HO_7.out).2.2 | (with_reducible refine Kd.C_alloc ?_ _) | (with_reducible refine Kd.C_drewN ?_ _) | (with_reducible refine Kd.C_drew ?_))); (case side2 => exact (Kd.R_reads' HO_7.out).2.1); rintro e w52 ⟨rfl, hb⟩; refine ⟨_, rfl, ?_⟩; have n0_ := Aside0.mk (Kd.R_below (by (with_reducible repeat (first | apply Kd.R_alloc | apply Kd.R_drewN | apply Kd.R_drew)); exact HO_7.out) hb); have n1_ := Aside0.mk (below_step (by repeat (first | (with_reducible first | exact HB.out | apply below_alloc | apply pw_below_drewN | apply below_drew1) | exact HB.out)) hb); clear HO_7; clear HB; have HO_7 := n0_; have HB := n1_; clear n0_ n1_; (try clear hb); (try clear hb2); (try clear hk); (try clear hi)))
                go_ret
                exact ⟨by first | rfl | (simp [errW_none, errW_some] <;> rfl) | (simp [*, errW_none, errW_some] <;> rfl), by repeat (first | (with_reducible first | exact HB.out | apply below_alloc | apply pw_below_drewN | apply below_drew1) | exact HB.out)⟩
            · replace c45 := Bool.eq_false_iff.mpr c45
              subst c45
              have H1 : (some false) = some r := by rw [if_neg (show ¬ (false = true) by decide)] at H; exact H
              clear H
              have H := H1
              clear H1
              obtain rfl := Option.some.inj H
              obtain ⟨Ao53, co53, eo53⟩ := Kd.R_slice HO_7.out
              subst eo53
              go_wp2_with (first | ((with_reducible refine gate_callee (f := 18) rfl ?_); refine goesL_ (some 89) rfl rfl Try.func18 (by kernel_rfl) rfl #[.int .i64 (wrap64 (1 + (Int.tmod (wrap64 (a0)) 8))), .slice Ao53 t250.length co53] rfl (by (try simp only [List.map_toArray, List.map_cons, List.map_nil]); first | done | rfl | (simp only [List.length_drop, List.length_take]; rfl)) ?_; (with_reducible refine (pebble_Legal.calls (wrap64 (1 + (Int.tmod (wrap64 (a0)) 8))) _ _ t250 t263 false _ ?side1 ?side2 A44.out).mono ?_); (case side1 => repeat (first | exact (Kd.R_reads' HO_7.out).2.2 | (with_reducible refine Kd.C_alloc ?_ _) | (with_reducible refine Kd.C_drewN ?_ _) | (with_reducible refine Kd.C_drew ?_))); (case side2 => exact (Kd.R_reads' HO_7.out).2.1); rintro e w54 ⟨rfl, hb⟩; refine ⟨_, rfl, ?_⟩; have n0_ := Aside0.mk (Kd.R_below (by (with_reducible repeat (first | apply Kd.R_alloc | apply Kd.R_drewN | apply Kd.R_drew)); exact HO_7.out) hb); have n1_ := Aside0.mk (below_step (by repeat (first | (with_reducible first | exact HB.out | apply below_alloc | apply pw_below_drewN | apply below_drew1) | exact HB.out)) hb); clear HO_7; clear HB; have HO_7 := n0_; have HB := n1_; clear n0_ n1_; (try clear hb); (try clear hb2); (try clear hk); (try clear hi)))
              go_ret
              exact ⟨by first | rfl | (simp [errW_none, errW_some] <;> rfl) | (simp [*, errW_none, errW_some] <;> rfl), by repeat (first | (with_reducible first | exact HB.out | apply below_alloc | apply pw_below_drewN | apply below_drew1) | exact HB.out)⟩
          · replace c43 := Bool.eq_false_iff.mpr c43
            subst c43
            have H1 : (some ((t250.length : Int) == 0)) = some r := by rw [if_neg (show ¬ (false = true) by decide)] at H; exact H
            clear H
            have H := H1
            clear H1
            obtain rfl := Option.some.inj H
            obtain ⟨Ao55, co55, eo55⟩ := Kd.R_slice HO_7.out
            subst eo55
            go_wp2
            go_ret
            exact ⟨by first | rfl | (simp [errW_none, errW_some] <;> rfl) | (simp [*, errW_none, errW_some] <;> rfl), by repeat (first | (with_reducible first | exact HB.out | apply below_alloc | apply pw_below_drewN | apply below_drew1) | exact HB.out)⟩
  · replace c4 := Bool.eq_false_iff.mpr c4
    subst c4
    have H1 : (some false) = some r := by rw [if_neg (show ¬ (false = true) by decide)] at H; exact H
    clear H
    have H := H1
    clear H1
    obtain rfl := Option.some.inj H
    go_enter Try.func10, Try.ntmps10
    go_wp2_with (first | ((with_reducible refine gate_callee (f := 11) rfl ?_); refine goesL_ (some 14) rfl rfl Try.func11 (by kernel_rfl) rfl #[] rfl (by (try simp only [List.map_toArray, List.map_cons, List.map_nil]); first | done | rfl | (simp only [List.length_drop, List.length_take]; rfl)) ?_; (with_reducible refine (backsteplaw44_awake.calls k  false _ A3.out).mono ?_); rintro e w56 ⟨rfl, hb⟩; refine ⟨_, rfl, ?_⟩; have n0_ := Aside0.mk (below_step (by repeat (first | (with_reducible first | exact HB.out | apply below_alloc | apply pw_below_drewN | apply below_drew1) | exact HB.out)) hb); clear HB; have HB := n0_; clear n0_; (try clear hb); (try clear hb2); (try clear hk); (try clear hi)))
    go_ret
    exact ⟨by first | rfl | (simp [errW_none, errW_some] <;> rfl) | (simp [*, errW_none, errW_some] <;> rfl), by repeat (first | (with_reducible first | exact HB.out | apply below_alloc | apply pw_below_drewN | apply below_drew1) | exact HB.out)⟩

/-- THE ONE PURE STATEMENT of backsteplaw44_PebbleReach: yours. -/
def backsteplaw44_PebbleReach.Pure : Prop := ∀ (a0 : Int) (a1 : Int), (Lit.int .u8 a0).wf = true → (Lit.int .u8 a1).wf = true → ∃ k, backsteplaw44_PebbleReach.f k a0 a1 = some true
theorem backsteplaw44_PebbleReach.walk (P : backsteplaw44_PebbleReach.Pure) (a0 : Int) (a1 : Int) (w : World) (w0 : (Lit.int .u8 a0).wf = true) (w1 : (Lit.int .u8 a1).wf = true) :
    Calls Try.prog 10 #[.int .u8 a0, .int .u8 a1] w fun e w' => e = .returned (.bool true) ∧ Below w.heap.size w w' := by
  obtain ⟨k, h⟩ := P a0 a1 w0 w1
  refine (backsteplaw44_PebbleReach.calls k a0 a1 true w h).mono ?_
  rintro e w' ⟨rfl, hd⟩
  exact ⟨rfl, hd⟩

end Go.Proofs.Ytpkamififbhheaa.PAll
