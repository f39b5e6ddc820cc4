/- PebbleReach's plain law: there are 64 cases. -/
import Derived.Test.YtpkamififbhheaaPAllx8
import Derived.Test.YtpkamififbhheaaPlain
import Derived.Test.YtpkamififbhheaaBestTabA
import Derived.Test.YtpkamififbhheaaBestTabB
import Derived.Test.YtpkamififbhheaaBestTabC
namespace Go.Proofs.Ytpkamififbhheaa.Pure
open Go.RowKit Go.Proofs.Ytpkamififbhheaa.PAll Go.Proofs.YtpkamififbhheaaW.PrintWords Go.Proofs.YtpkamififbhheaaW.PrintLast

def reachRest (k : Nat) (x v : Int) (bt250 bt254 : List Int × Bool) : Option Bool := ((pebble_Reach.f v).bind fun t258 => (if (bt250.2 != (decide (x ≤ t258))) = true then (backsteplaw44_PebbleReach.j0 k x v bt250.1 bt250.2 true) else (if bt250.2 = true then (if bt254.2 = true then (if (bt254.1.length : Int) > (bt250.1.length : Int) then (backsteplaw44_PebbleReach.j0 k x v bt250.1 bt250.2 true) else ((pebble_Reach.f (wrap64 (-v))).bind fun t259 => (if t259 = 0 then ((pebble_Reach.f (wrap64 (v + 1))).bind fun t260 => (if t260 < t258 then (backsteplaw44_PebbleReach.j0 k x v bt250.1 bt250.2 true) else (if v ≥ 1 then (if 0 ≤ (wrap64 (v - 1)) then (backsteplaw44_PebbleReach.j0 k x v bt250.1 bt250.2 (t258 != (shl .i64 1 (wrap64 (v - 1))))) else (none)) else (backsteplaw44_PebbleReach.j0 k x v bt250.1 bt250.2 false)))) else (backsteplaw44_PebbleReach.j0 k x v bt250.1 bt250.2 true)))) else (backsteplaw44_PebbleReach.j0 k x v bt250.1 bt250.2 true)) else ((pebble_Reach.f (wrap64 (-v))).bind fun t261 => (if t261 = 0 then ((pebble_Reach.f (wrap64 (v + 1))).bind fun t262 => (if t262 < t258 then (backsteplaw44_PebbleReach.j0 k x v bt250.1 bt250.2 true) else (if v ≥ 1 then (if 0 ≤ (wrap64 (v - 1)) then (backsteplaw44_PebbleReach.j0 k x v bt250.1 bt250.2 (t258 != (shl .i64 1 (wrap64 (v - 1))))) else (none)) else (backsteplaw44_PebbleReach.j0 k x v bt250.1 bt250.2 false)))) else (backsteplaw44_PebbleReach.j0 k x v bt250.1 bt250.2 true))))))
theorem reach_f (k : Nat) (a0 a1 : Int) : backsteplaw44_PebbleReach.f k a0 a1 = (backsteplaw44_awake.f k).bind fun t => if t = true then (pebble_Best.f k (wrap64 (1 + (Int.tmod (wrap64 (a0)) 8))) (Int.tmod (wrap64 (a1)) 8)).bind fun b1 => (pebble_Best.f k (wrap64 (1 + (Int.tmod (wrap64 (a0)) 8))) (wrap64 ((Int.tmod (wrap64 (a1)) 8) + 1))).bind fun b2 => reachRest k (wrap64 (1 + (Int.tmod (wrap64 (a0)) 8))) (Int.tmod (wrap64 (a1)) 8) b1 b2 else some false := rfl
theorem best_1_0 : pebble_Best.f 3300 1 0 = some ([], false) := by decide +kernel
theorem rest_1_0 : reachRest 3300 1 0 ([], false) ([1], true) = some true := by decide +kernel
theorem rest_1_1 : reachRest 3300 1 1 ([1], true) ([1], true) = some true := by decide +kernel
theorem rest_1_2 : reachRest 3300 1 2 ([1], true) ([1], true) = some true := by decide +kernel
theorem rest_1_3 : reachRest 3300 1 3 ([1], true) ([1], true) = some true := by decide +kernel
theorem rest_1_4 : reachRest 3300 1 4 ([1], true) ([1], true) = some true := by decide +kernel
theorem rest_1_5 : reachRest 3300 1 5 ([1], true) ([1], true) = some true := by decide +kernel
theorem rest_1_6 : reachRest 3300 1 6 ([1], true) ([1], true) = some true := by decide +kernel
theorem rest_1_7 : reachRest 3300 1 7 ([1], true) ([1], true) = some true := by decide +kernel
theorem reach_1 (v : Int) (h0 : 0 ≤ v) (h1 : v ≤ 7) : ∃ b1 b2, pebble_Best.f 3300 1 v = some b1 ∧ pebble_Best.f 3300 1 (v + 1) = some b2 ∧ reachRest 3300 1 v b1 b2 = some true := by
  obtain rfl | rfl | rfl | rfl | rfl | rfl | rfl | rfl : v = 0 ∨ v = 1 ∨ v = 2 ∨ v = 3 ∨ v = 4 ∨ v = 5 ∨ v = 6 ∨ v = 7 := by omega
  · exact ⟨_, _, best_1_0, best_1_1, rest_1_0⟩
  · exact ⟨_, _, best_1_1, best_1_2, rest_1_1⟩
  · exact ⟨_, _, best_1_2, best_1_3, rest_1_2⟩
  · exact ⟨_, _, best_1_3, best_1_4, rest_1_3⟩
  · exact ⟨_, _, best_1_4, best_1_5, rest_1_4⟩
  · exact ⟨_, _, best_1_5, best_1_6, rest_1_5⟩
  · exact ⟨_, _, best_1_6, best_1_7, rest_1_6⟩
  · exact ⟨_, _, best_1_7, best_1_8, rest_1_7⟩
theorem best_2_0 : pebble_Best.f 3300 2 0 = some ([], false) := by decide +kernel
theorem rest_2_0 : reachRest 3300 2 0 ([], false) ([], false) = some true := by decide +kernel
theorem rest_2_1 : reachRest 3300 2 1 ([], false) ([1, 2, (-1)], true) = some true := by decide +kernel
theorem rest_2_2 : reachRest 3300 2 2 ([1, 2, (-1)], true) ([1, 2, (-1)], true) = some true := by decide +kernel
theorem rest_2_3 : reachRest 3300 2 3 ([1, 2, (-1)], true) ([1, 2, (-1)], true) = some true := by decide +kernel
theorem rest_2_4 : reachRest 3300 2 4 ([1, 2, (-1)], true) ([1, 2, (-1)], true) = some true := by decide +kernel
theorem rest_2_5 : reachRest 3300 2 5 ([1, 2, (-1)], true) ([1, 2, (-1)], true) = some true := by decide +kernel
theorem rest_2_6 : reachRest 3300 2 6 ([1, 2, (-1)], true) ([1, 2, (-1)], true) = some true := by decide +kernel
theorem rest_2_7 : reachRest 3300 2 7 ([1, 2, (-1)], true) ([1, 2, (-1)], true) = some true := by decide +kernel
theorem reach_2 (v : Int) (h0 : 0 ≤ v) (h1 : v ≤ 7) : ∃ b1 b2, pebble_Best.f 3300 2 v = some b1 ∧ pebble_Best.f 3300 2 (v + 1) = some b2 ∧ reachRest 3300 2 v b1 b2 = some true := by
  obtain rfl | rfl | rfl | rfl | rfl | rfl | rfl | rfl : v = 0 ∨ v = 1 ∨ v = 2 ∨ v = 3 ∨ v = 4 ∨ v = 5 ∨ v = 6 ∨ v = 7 := by omega
  · exact ⟨_, _, best_2_0, best_2_1, rest_2_0⟩
  · exact ⟨_, _, best_2_1, best_2_2, rest_2_1⟩
  · exact ⟨_, _, best_2_2, best_2_3, rest_2_2⟩
  · exact ⟨_, _, best_2_3, best_2_4, rest_2_3⟩
  · exact ⟨_, _, best_2_4, best_2_5, rest_2_4⟩
  · exact ⟨_, _, best_2_5, best_2_6, rest_2_5⟩
  · exact ⟨_, _, best_2_6, best_2_7, rest_2_6⟩
  · exact ⟨_, _, best_2_7, best_2_8, rest_2_7⟩
theorem best_3_0 : pebble_Best.f 3300 3 0 = some ([], false) := by decide +kernel
theorem rest_3_0 : reachRest 3300 3 0 ([], false) ([], false) = some true := by decide +kernel
theorem rest_3_1 : reachRest 3300 3 1 ([], false) ([], false) = some true := by decide +kernel
theorem rest_3_2 : reachRest 3300 3 2 ([], false) ([1, 2, 3, (-2), (-1)], true) = some true := by decide +kernel
theorem rest_3_3 : reachRest 3300 3 3 ([1, 2, 3, (-2), (-1)], true) ([1, 2, 3, (-2), (-1)], true) = some true := by decide +kernel
theorem rest_3_4 : reachRest 3300 3 4 ([1, 2, 3, (-2), (-1)], true) ([1, 2, 3, (-2), (-1)], true) = some true := by decide +kernel
theorem rest_3_5 : reachRest 3300 3 5 ([1, 2, 3, (-2), (-1)], true) ([1, 2, 3, (-2), (-1)], true) = some true := by decide +kernel
theorem rest_3_6 : reachRest 3300 3 6 ([1, 2, 3, (-2), (-1)], true) ([1, 2, 3, (-2), (-1)], true) = some true := by decide +kernel
theorem rest_3_7 : reachRest 3300 3 7 ([1, 2, 3, (-2), (-1)], true) ([1, 2, 3, (-2), (-1)], true) = some true := by decide +kernel
theorem reach_3 (v : Int) (h0 : 0 ≤ v) (h1 : v ≤ 7) : ∃ b1 b2, pebble_Best.f 3300 3 v = some b1 ∧ pebble_Best.f 3300 3 (v + 1) = some b2 ∧ reachRest 3300 3 v b1 b2 = some true := by
  obtain rfl | rfl | rfl | rfl | rfl | rfl | rfl | rfl : v = 0 ∨ v = 1 ∨ v = 2 ∨ v = 3 ∨ v = 4 ∨ v = 5 ∨ v = 6 ∨ v = 7 := by omega
  · exact ⟨_, _, best_3_0, best_3_1, rest_3_0⟩
  · exact ⟨_, _, best_3_1, best_3_2, rest_3_1⟩
  · exact ⟨_, _, best_3_2, best_3_3, rest_3_2⟩
  · exact ⟨_, _, best_3_3, best_3_4, rest_3_3⟩
  · exact ⟨_, _, best_3_4, best_3_5, rest_3_4⟩
  · exact ⟨_, _, best_3_5, best_3_6, rest_3_5⟩
  · exact ⟨_, _, best_3_6, best_3_7, rest_3_6⟩
  · exact ⟨_, _, best_3_7, best_3_8, rest_3_7⟩
theorem best_4_0 : pebble_Best.f 3300 4 0 = some ([], false) := by decide +kernel
theorem rest_4_0 : reachRest 3300 4 0 ([], false) ([], false) = some true := by decide +kernel
theorem rest_4_1 : reachRest 3300 4 1 ([], false) ([], false) = some true := by decide +kernel
theorem rest_4_2 : reachRest 3300 4 2 ([], false) ([1, 2, (-1), 3, 4, (-3), 1, (-2), (-1)], true) = some true := by decide +kernel
theorem rest_4_3 : reachRest 3300 4 3 ([1, 2, (-1), 3, 4, (-3), 1, (-2), (-1)], true) ([1, 2, 3, 4, (-3), (-2), (-1)], true) = some true := by decide +kernel
theorem rest_4_4 : reachRest 3300 4 4 ([1, 2, 3, 4, (-3), (-2), (-1)], true) ([1, 2, 3, 4, (-3), (-2), (-1)], true) = some true := by decide +kernel
theorem rest_4_5 : reachRest 3300 4 5 ([1, 2, 3, 4, (-3), (-2), (-1)], true) ([1, 2, 3, 4, (-3), (-2), (-1)], true) = some true := by decide +kernel
theorem rest_4_6 : reachRest 3300 4 6 ([1, 2, 3, 4, (-3), (-2), (-1)], true) ([1, 2, 3, 4, (-3), (-2), (-1)], true) = some true := by decide +kernel
theorem rest_4_7 : reachRest 3300 4 7 ([1, 2, 3, 4, (-3), (-2), (-1)], true) ([1, 2, 3, 4, (-3), (-2), (-1)], true) = some true := by decide +kernel
theorem reach_4 (v : Int) (h0 : 0 ≤ v) (h1 : v ≤ 7) : ∃ b1 b2, pebble_Best.f 3300 4 v = some b1 ∧ pebble_Best.f 3300 4 (v + 1) = some b2 ∧ reachRest 3300 4 v b1 b2 = some true := by
  obtain rfl | rfl | rfl | rfl | rfl | rfl | rfl | rfl : v = 0 ∨ v = 1 ∨ v = 2 ∨ v = 3 ∨ v = 4 ∨ v = 5 ∨ v = 6 ∨ v = 7 := by omega
  · exact ⟨_, _, best_4_0, best_4_1, rest_4_0⟩
  · exact ⟨_, _, best_4_1, best_4_2, rest_4_1⟩
  · exact ⟨_, _, best_4_2, best_4_3, rest_4_2⟩
  · exact ⟨_, _, best_4_3, best_4_4, rest_4_3⟩
  · exact ⟨_, _, best_4_4, best_4_5, rest_4_4⟩
  · exact ⟨_, _, best_4_5, best_4_6, rest_4_5⟩
  · exact ⟨_, _, best_4_6, best_4_7, rest_4_6⟩
  · exact ⟨_, _, best_4_7, best_4_8, rest_4_7⟩
theorem best_5_0 : pebble_Best.f 3300 5 0 = some ([], false) := by decide +kernel
theorem rest_5_0 : reachRest 3300 5 0 ([], false) ([], false) = some true := by decide +kernel
theorem rest_5_1 : reachRest 3300 5 1 ([], false) ([], false) = some true := by decide +kernel
theorem rest_5_2 : reachRest 3300 5 2 ([], false) ([], false) = some true := by decide +kernel
theorem rest_5_3 : reachRest 3300 5 3 ([], false) ([1, 2, (-1), 3, 4, 5, (-4), (-3), 1, (-2), (-1)], true) = some true := by decide +kernel
theorem rest_5_4 : reachRest 3300 5 4 ([1, 2, (-1), 3, 4, 5, (-4), (-3), 1, (-2), (-1)], true) ([1, 2, 3, 4, 5, (-4), (-3), (-2), (-1)], true) = some true := by decide +kernel
theorem rest_5_5 : reachRest 3300 5 5 ([1, 2, 3, 4, 5, (-4), (-3), (-2), (-1)], true) ([1, 2, 3, 4, 5, (-4), (-3), (-2), (-1)], true) = some true := by decide +kernel
theorem rest_5_6 : reachRest 3300 5 6 ([1, 2, 3, 4, 5, (-4), (-3), (-2), (-1)], true) ([1, 2, 3, 4, 5, (-4), (-3), (-2), (-1)], true) = some true := by decide +kernel
theorem rest_5_7 : reachRest 3300 5 7 ([1, 2, 3, 4, 5, (-4), (-3), (-2), (-1)], true) ([1, 2, 3, 4, 5, (-4), (-3), (-2), (-1)], true) = some true := by decide +kernel
theorem reach_5 (v : Int) (h0 : 0 ≤ v) (h1 : v ≤ 7) : ∃ b1 b2, pebble_Best.f 3300 5 v = some b1 ∧ pebble_Best.f 3300 5 (v + 1) = some b2 ∧ reachRest 3300 5 v b1 b2 = some true := by
  obtain rfl | rfl | rfl | rfl | rfl | rfl | rfl | rfl : v = 0 ∨ v = 1 ∨ v = 2 ∨ v = 3 ∨ v = 4 ∨ v = 5 ∨ v = 6 ∨ v = 7 := by omega
  · exact ⟨_, _, best_5_0, best_5_1, rest_5_0⟩
  · exact ⟨_, _, best_5_1, best_5_2, rest_5_1⟩
  · exact ⟨_, _, best_5_2, best_5_3, rest_5_2⟩
  · exact ⟨_, _, best_5_3, best_5_4, rest_5_3⟩
  · exact ⟨_, _, best_5_4, best_5_5, rest_5_4⟩
  · exact ⟨_, _, best_5_5, best_5_6, rest_5_5⟩
  · exact ⟨_, _, best_5_6, best_5_7, rest_5_6⟩
  · exact ⟨_, _, best_5_7, best_5_8, rest_5_7⟩
theorem best_6_0 : pebble_Best.f 3300 6 0 = some ([], false) := by decide +kernel
theorem rest_6_0 : reachRest 3300 6 0 ([], false) ([], false) = some true := by decide +kernel
theorem rest_6_1 : reachRest 3300 6 1 ([], false) ([], false) = some true := by decide +kernel
theorem rest_6_2 : reachRest 3300 6 2 ([], false) ([], false) = some true := by decide +kernel
theorem rest_6_3 : reachRest 3300 6 3 ([], false) ([1, 2, (-1), 3, 4, (-3), 5, 6, (-5), 3, (-4), (-3), 1, (-2), (-1)], true) = some true := by decide +kernel
theorem rest_6_4 : reachRest 3300 6 4 ([1, 2, (-1), 3, 4, (-3), 5, 6, (-5), 3, (-4), (-3), 1, (-2), (-1)], true) ([1, 2, (-1), 3, 4, 5, 6, (-5), (-4), (-3), 1, (-2), (-1)], true) = some true := by decide +kernel
theorem rest_6_5 : reachRest 3300 6 5 ([1, 2, (-1), 3, 4, 5, 6, (-5), (-4), (-3), 1, (-2), (-1)], true) ([1, 2, 3, 4, 5, 6, (-5), (-4), (-3), (-2), (-1)], true) = some true := by decide +kernel
theorem rest_6_6 : reachRest 3300 6 6 ([1, 2, 3, 4, 5, 6, (-5), (-4), (-3), (-2), (-1)], true) ([1, 2, 3, 4, 5, 6, (-5), (-4), (-3), (-2), (-1)], true) = some true := by decide +kernel
theorem rest_6_7 : reachRest 3300 6 7 ([1, 2, 3, 4, 5, 6, (-5), (-4), (-3), (-2), (-1)], true) ([1, 2, 3, 4, 5, 6, (-5), (-4), (-3), (-2), (-1)], true) = some true := by decide +kernel
theorem reach_6 (v : Int) (h0 : 0 ≤ v) (h1 : v ≤ 7) : ∃ b1 b2, pebble_Best.f 3300 6 v = some b1 ∧ pebble_Best.f 3300 6 (v + 1) = some b2 ∧ reachRest 3300 6 v b1 b2 = some true := by
  obtain rfl | rfl | rfl | rfl | rfl | rfl | rfl | rfl : v = 0 ∨ v = 1 ∨ v = 2 ∨ v = 3 ∨ v = 4 ∨ v = 5 ∨ v = 6 ∨ v = 7 := by omega
  · exact ⟨_, _, best_6_0, best_6_1, rest_6_0⟩
  · exact ⟨_, _, best_6_1, best_6_2, rest_6_1⟩
  · exact ⟨_, _, best_6_2, best_6_3, rest_6_2⟩
  · exact ⟨_, _, best_6_3, best_6_4, rest_6_3⟩
  · exact ⟨_, _, best_6_4, best_6_5, rest_6_4⟩
  · exact ⟨_, _, best_6_5, best_6_6, rest_6_5⟩
  · exact ⟨_, _, best_6_6, best_6_7, rest_6_6⟩
  · exact ⟨_, _, best_6_7, best_6_8, rest_6_7⟩
theorem best_7_0 : pebble_Best.f 3300 7 0 = some ([], false) := by decide +kernel
theorem rest_7_0 : reachRest 3300 7 0 ([], false) ([], false) = some true := by decide +kernel
theorem rest_7_1 : reachRest 3300 7 1 ([], false) ([], false) = some true := by decide +kernel
theorem rest_7_2 : reachRest 3300 7 2 ([], false) ([], false) = some true := by decide +kernel
theorem rest_7_3 : reachRest 3300 7 3 ([], false) ([1, 2, 3, (-2), (-1), 4, 5, (-4), 6, 7, (-6), 4, (-5), (-4), 1, 2, (-3), (-2), (-1)], true) = some true := by decide +kernel
theorem rest_7_4 : reachRest 3300 7 4 ([1, 2, 3, (-2), (-1), 4, 5, (-4), 6, 7, (-6), 4, (-5), (-4), 1, 2, (-3), (-2), (-1)], true) ([1, 2, (-1), 3, 4, (-3), 5, 6, 7, (-6), (-5), 1, 3, (-4), (-3), (-2), (-1)], true) = some true := by decide +kernel
theorem rest_7_5 : reachRest 3300 7 5 ([1, 2, (-1), 3, 4, (-3), 5, 6, 7, (-6), (-5), 1, 3, (-4), (-3), (-2), (-1)], true) ([1, 2, (-1), 3, 4, 5, 6, 7, (-6), (-5), (-4), (-3), 1, (-2), (-1)], true) = some true := by decide +kernel
theorem rest_7_6 : reachRest 3300 7 6 ([1, 2, (-1), 3, 4, 5, 6, 7, (-6), (-5), (-4), (-3), 1, (-2), (-1)], true) ([1, 2, 3, 4, 5, 6, 7, (-6), (-5), (-4), (-3), (-2), (-1)], true) = some true := by decide +kernel
theorem rest_7_7 : reachRest 3300 7 7 ([1, 2, 3, 4, 5, 6, 7, (-6), (-5), (-4), (-3), (-2), (-1)], true) ([1, 2, 3, 4, 5, 6, 7, (-6), (-5), (-4), (-3), (-2), (-1)], true) = some true := by decide +kernel
theorem reach_7 (v : Int) (h0 : 0 ≤ v) (h1 : v ≤ 7) : ∃ b1 b2, pebble_Best.f 3300 7 v = some b1 ∧ pebble_Best.f 3300 7 (v + 1) = some b2 ∧ reachRest 3300 7 v b1 b2 = some true := by
  obtain rfl | rfl | rfl | rfl | rfl | rfl | rfl | rfl : v = 0 ∨ v = 1 ∨ v = 2 ∨ v = 3 ∨ v = 4 ∨ v = 5 ∨ v = 6 ∨ v = 7 := by omega
  · exact ⟨_, _, best_7_0, best_7_1, rest_7_0⟩
  · exact ⟨_, _, best_7_1, best_7_2, rest_7_1⟩
  · exact ⟨_, _, best_7_2, best_7_3, rest_7_2⟩
  · exact ⟨_, _, best_7_3, best_7_4, rest_7_3⟩
  · exact ⟨_, _, best_7_4, best_7_5, rest_7_4⟩
  · exact ⟨_, _, best_7_5, best_7_6, rest_7_5⟩
  · exact ⟨_, _, best_7_6, best_7_7, rest_7_6⟩
  · exact ⟨_, _, best_7_7, best_7_8, rest_7_7⟩
theorem best_8_0 : pebble_Best.f 3300 8 0 = some ([], false) := by decide +kernel
theorem rest_8_0 : reachRest 3300 8 0 ([], false) ([], false) = some true := by decide +kernel
theorem rest_8_1 : reachRest 3300 8 1 ([], false) ([], false) = some true := by decide +kernel
theorem rest_8_2 : reachRest 3300 8 2 ([], false) ([], false) = some true := by decide +kernel
theorem rest_8_3 : reachRest 3300 8 3 ([], false) ([1, 2, 3, 4, (-3), (-2), (-1), 5, 6, (-5), 7, 8, (-7), 5, (-6), (-5), 1, 2, (-1), 3, (-4), (-3), 1, (-2), (-1)], true) = some true := by decide +kernel
theorem rest_8_4 : reachRest 3300 8 4 ([1, 2, 3, 4, (-3), (-2), (-1), 5, 6, (-5), 7, 8, (-7), 5, (-6), (-5), 1, 2, (-1), 3, (-4), (-3), 1, (-2), (-1)], true) ([1, 2, (-1), 3, 4, (-3), 5, 6, (-5), 7, 8, (-7), 5, (-6), (-5), 1, 3, (-4), (-3), (-2), (-1)], true) = some true := by decide +kernel
theorem rest_8_5 : reachRest 3300 8 5 ([1, 2, (-1), 3, 4, (-3), 5, 6, (-5), 7, 8, (-7), 5, (-6), (-5), 1, 3, (-4), (-3), (-2), (-1)], true) ([1, 2, (-1), 3, 4, (-3), 5, 6, 7, 8, (-7), (-6), (-5), 1, 3, (-4), (-3), (-2), (-1)], true) = some true := by decide +kernel
theorem rest_8_6 : reachRest 3300 8 6 ([1, 2, (-1), 3, 4, (-3), 5, 6, 7, 8, (-7), (-6), (-5), 1, 3, (-4), (-3), (-2), (-1)], true) ([1, 2, (-1), 3, 4, 5, 6, 7, 8, (-7), (-6), (-5), (-4), (-3), 1, (-2), (-1)], true) = some true := by decide +kernel
theorem rest_8_7 : reachRest 3300 8 7 ([1, 2, (-1), 3, 4, 5, 6, 7, 8, (-7), (-6), (-5), (-4), (-3), 1, (-2), (-1)], true) ([1, 2, 3, 4, 5, 6, 7, 8, (-7), (-6), (-5), (-4), (-3), (-2), (-1)], true) = some true := by decide +kernel
theorem reach_8 (v : Int) (h0 : 0 ≤ v) (h1 : v ≤ 7) : ∃ b1 b2, pebble_Best.f 3300 8 v = some b1 ∧ pebble_Best.f 3300 8 (v + 1) = some b2 ∧ reachRest 3300 8 v b1 b2 = some true := by
  obtain rfl | rfl | rfl | rfl | rfl | rfl | rfl | rfl : v = 0 ∨ v = 1 ∨ v = 2 ∨ v = 3 ∨ v = 4 ∨ v = 5 ∨ v = 6 ∨ v = 7 := by omega
  · exact ⟨_, _, best_8_0, best_8_1, rest_8_0⟩
  · exact ⟨_, _, best_8_1, best_8_2, rest_8_1⟩
  · exact ⟨_, _, best_8_2, best_8_3, rest_8_2⟩
  · exact ⟨_, _, best_8_3, best_8_4, rest_8_3⟩
  · exact ⟨_, _, best_8_4, best_8_5, rest_8_4⟩
  · exact ⟨_, _, best_8_5, best_8_6, rest_8_5⟩
  · exact ⟨_, _, best_8_6, best_8_7, rest_8_6⟩
  · exact ⟨_, _, best_8_7, best_8_8, rest_8_7⟩
theorem PebbleReach : backsteplaw44_PebbleReach.Pure := by
  intro a0 a1 h0 h1
  refine ⟨3300, ?_⟩
  have h0 := wf8.1 h0
  have h1 := wf8.1 h1
  obtain ⟨u, hu⟩ := tmod_fin h0.1 8 (by omega)
  obtain ⟨w, hw⟩ := tmod_fin h1.1 8 (by omega)
  have hu : Int.tmod a0 8 = u.1 := hu
  have hw : Int.tmod a1 8 = w.1 := hw
  have hu2 := u.2
  have hw2 := w.2
  have ha := awake_ok
  have ha : backsteplaw44_awake.f 3300 = some true := by
    have hm : ∀ d : Nat, backsteplaw44_awake.f (200 + d) = some true := fun d => by
      induction d with
      | zero => exact ha
      | succ d ih => exact backsteplaw44_awake.mono (200 + d) true ih
    exact hm 3100
  have key : ∃ b1 b2, pebble_Best.f 3300 (1 + (u.1 : Int)) w.1 = some b1 ∧ pebble_Best.f 3300 (1 + (u.1 : Int)) (w.1 + 1) = some b2 ∧ reachRest 3300 (1 + (u.1 : Int)) w.1 b1 b2 = some true := by
    obtain ⟨x, hx⟩ : ∃ x : Int, x = 1 + (u.1 : Int) := ⟨_, rfl⟩
    rw [← hx]
    obtain rfl | rfl | rfl | rfl | rfl | rfl | rfl | rfl : x = 1 ∨ x = 2 ∨ x = 3 ∨ x = 4 ∨ x = 5 ∨ x = 6 ∨ x = 7 ∨ x = 8 := by omega
    · exact reach_1 _ (by omega) (by omega)
    · exact reach_2 _ (by omega) (by omega)
    · exact reach_3 _ (by omega) (by omega)
    · exact reach_4 _ (by omega) (by omega)
    · exact reach_5 _ (by omega) (by omega)
    · exact reach_6 _ (by omega) (by omega)
    · exact reach_7 _ (by omega) (by omega)
    · exact reach_8 _ (by omega) (by omega)
  obtain ⟨b1, b2, e1, e2, e3⟩ := key
  rw [reach_f, ha, Option.bind_some, if_pos rfl, wrap64_of (n := a0) (by omega) (by omega), wrap64_of (n := a1) (by omega) (by omega), hu, hw, wrap64_of (n := 1 + (u.1 : Int)) (by omega) (by omega), wrap64_of (n := (w.1 : Int) + 1) (by omega) (by omega), e1, Option.bind_some, e2, Option.bind_some]
  exact e3

end Go.Proofs.Ytpkamififbhheaa.Pure
