/- pebble.Best, up to 7 nodes: each case computed. -/
import Derived.Test.YtpkamififbhheaaBst
namespace Go.Proofs.Ytpkamififbhheaa.Pure
open Go.RowKit Go.Proofs.Ytpkamififbhheaa.PAll

theorem best_1_1 : pebble_Best.f 3300 1 1 = some ([1], true) := by decide +kernel
theorem best_1_2 : pebble_Best.f 3300 1 2 = some ([1], true) := by decide +kernel
theorem best_1_3 : pebble_Best.f 3300 1 3 = some ([1], true) := by decide +kernel
theorem best_1_4 : pebble_Best.f 3300 1 4 = some ([1], true) := by decide +kernel
theorem best_1_5 : pebble_Best.f 3300 1 5 = some ([1], true) := by decide +kernel
theorem best_1_6 : pebble_Best.f 3300 1 6 = some ([1], true) := by decide +kernel
theorem best_1_7 : pebble_Best.f 3300 1 7 = some ([1], true) := by decide +kernel
theorem best_1_8 : pebble_Best.f 3300 1 8 = some ([1], true) := by decide +kernel
theorem best_2_1 : pebble_Best.f 3300 2 1 = some ([], false) := by decide +kernel
theorem best_2_2 : pebble_Best.f 3300 2 2 = some ([1, 2, (-1)], true) := by decide +kernel
theorem best_2_3 : pebble_Best.f 3300 2 3 = some ([1, 2, (-1)], true) := by decide +kernel
theorem best_2_4 : pebble_Best.f 3300 2 4 = some ([1, 2, (-1)], true) := by decide +kernel
theorem best_2_5 : pebble_Best.f 3300 2 5 = some ([1, 2, (-1)], true) := by decide +kernel
theorem best_2_6 : pebble_Best.f 3300 2 6 = some ([1, 2, (-1)], true) := by decide +kernel
theorem best_2_7 : pebble_Best.f 3300 2 7 = some ([1, 2, (-1)], true) := by decide +kernel
theorem best_2_8 : pebble_Best.f 3300 2 8 = some ([1, 2, (-1)], true) := by decide +kernel
theorem best_3_1 : pebble_Best.f 3300 3 1 = some ([], false) := by decide +kernel
theorem best_3_2 : pebble_Best.f 3300 3 2 = some ([], false) := by decide +kernel
theorem best_3_3 : pebble_Best.f 3300 3 3 = some ([1, 2, 3, (-2), (-1)], true) := by decide +kernel
theorem best_3_4 : pebble_Best.f 3300 3 4 = some ([1, 2, 3, (-2), (-1)], true) := by decide +kernel
theorem best_3_5 : pebble_Best.f 3300 3 5 = some ([1, 2, 3, (-2), (-1)], true) := by decide +kernel
theorem best_3_6 : pebble_Best.f 3300 3 6 = some ([1, 2, 3, (-2), (-1)], true) := by decide +kernel
theorem best_3_7 : pebble_Best.f 3300 3 7 = some ([1, 2, 3, (-2), (-1)], true) := by decide +kernel
theorem best_3_8 : pebble_Best.f 3300 3 8 = some ([1, 2, 3, (-2), (-1)], true) := by decide +kernel
theorem best_4_1 : pebble_Best.f 3300 4 1 = some ([], false) := by decide +kernel
theorem best_4_2 : pebble_Best.f 3300 4 2 = some ([], false) := by decide +kernel
theorem best_4_3 : pebble_Best.f 3300 4 3 = some ([1, 2, (-1), 3, 4, (-3), 1, (-2), (-1)], true) := by decide +kernel
theorem best_4_4 : pebble_Best.f 3300 4 4 = some ([1, 2, 3, 4, (-3), (-2), (-1)], true) := by decide +kernel
theorem best_4_5 : pebble_Best.f 3300 4 5 = some ([1, 2, 3, 4, (-3), (-2), (-1)], true) := by decide +kernel
theorem best_4_6 : pebble_Best.f 3300 4 6 = some ([1, 2, 3, 4, (-3), (-2), (-1)], true) := by decide +kernel
theorem best_4_7 : pebble_Best.f 3300 4 7 = some ([1, 2, 3, 4, (-3), (-2), (-1)], true) := by decide +kernel
theorem best_4_8 : pebble_Best.f 3300 4 8 = some ([1, 2, 3, 4, (-3), (-2), (-1)], true) := by decide +kernel
theorem best_5_1 : pebble_Best.f 3300 5 1 = some ([], false) := by decide +kernel
theorem best_5_2 : pebble_Best.f 3300 5 2 = some ([], false) := by decide +kernel
theorem best_5_3 : pebble_Best.f 3300 5 3 = some ([], false) := by decide +kernel
theorem best_5_4 : pebble_Best.f 3300 5 4 = some ([1, 2, (-1), 3, 4, 5, (-4), (-3), 1, (-2), (-1)], true) := by decide +kernel
theorem best_5_5 : pebble_Best.f 3300 5 5 = some ([1, 2, 3, 4, 5, (-4), (-3), (-2), (-1)], true) := by decide +kernel
theorem best_5_6 : pebble_Best.f 3300 5 6 = some ([1, 2, 3, 4, 5, (-4), (-3), (-2), (-1)], true) := by decide +kernel
theorem best_5_7 : pebble_Best.f 3300 5 7 = some ([1, 2, 3, 4, 5, (-4), (-3), (-2), (-1)], true) := by decide +kernel
theorem best_5_8 : pebble_Best.f 3300 5 8 = some ([1, 2, 3, 4, 5, (-4), (-3), (-2), (-1)], true) := by decide +kernel
theorem best_6_1 : pebble_Best.f 3300 6 1 = some ([], false) := by decide +kernel
theorem best_6_2 : pebble_Best.f 3300 6 2 = some ([], false) := by decide +kernel
theorem best_6_3 : pebble_Best.f 3300 6 3 = some ([], false) := by decide +kernel
theorem best_6_4 : pebble_Best.f 3300 6 4 = some ([1, 2, (-1), 3, 4, (-3), 5, 6, (-5), 3, (-4), (-3), 1, (-2), (-1)], true) := by decide +kernel
theorem best_6_5 : pebble_Best.f 3300 6 5 = some ([1, 2, (-1), 3, 4, 5, 6, (-5), (-4), (-3), 1, (-2), (-1)], true) := by decide +kernel
theorem best_6_6 : pebble_Best.f 3300 6 6 = some ([1, 2, 3, 4, 5, 6, (-5), (-4), (-3), (-2), (-1)], true) := by decide +kernel
theorem best_6_7 : pebble_Best.f 3300 6 7 = some ([1, 2, 3, 4, 5, 6, (-5), (-4), (-3), (-2), (-1)], true) := by decide +kernel
theorem best_6_8 : pebble_Best.f 3300 6 8 = some ([1, 2, 3, 4, 5, 6, (-5), (-4), (-3), (-2), (-1)], true) := by decide +kernel
theorem best_7_1 : pebble_Best.f 3300 7 1 = some ([], false) := by decide +kernel
theorem best_7_2 : pebble_Best.f 3300 7 2 = some ([], false) := by decide +kernel
theorem best_7_3 : pebble_Best.f 3300 7 3 = some ([], false) := by decide +kernel
theorem best_7_4 : pebble_Best.f 3300 7 4 = some ([1, 2, 3, (-2), (-1), 4, 5, (-4), 6, 7, (-6), 4, (-5), (-4), 1, 2, (-3), (-2), (-1)], true) := by decide +kernel
theorem best_7_5 : pebble_Best.f 3300 7 5 = some ([1, 2, (-1), 3, 4, (-3), 5, 6, 7, (-6), (-5), 1, 3, (-4), (-3), (-2), (-1)], true) := by decide +kernel
theorem best_7_6 : pebble_Best.f 3300 7 6 = some ([1, 2, (-1), 3, 4, 5, 6, 7, (-6), (-5), (-4), (-3), 1, (-2), (-1)], true) := by decide +kernel
theorem best_7_7 : pebble_Best.f 3300 7 7 = some ([1, 2, 3, 4, 5, 6, 7, (-6), (-5), (-4), (-3), (-2), (-1)], true) := by decide +kernel
theorem best_7_8 : pebble_Best.f 3300 7 8 = some ([1, 2, 3, 4, 5, 6, 7, (-6), (-5), (-4), (-3), (-2), (-1)], true) := by decide +kernel

end Go.Proofs.Ytpkamififbhheaa.Pure
