/- pebble.Best, 8 nodes, up to 5 pebbles: each case computed. -/
import Derived.Test.YtpkamififbhheaaBst
namespace Go.Proofs.Ytpkamififbhheaa.Pure
open Go.RowKit Go.Proofs.Ytpkamififbhheaa.PAll

theorem best_8_1 : pebble_Best.f 3300 8 1 = some ([], false) := by decide +kernel
theorem best_8_2 : pebble_Best.f 3300 8 2 = some ([], false) := by decide +kernel
theorem best_8_3 : pebble_Best.f 3300 8 3 = some ([], false) := by decide +kernel
theorem best_8_4 : pebble_Best.f 3300 8 4 = some ([1, 2, 3, 4, (-3), (-2), (-1), 5, 6, (-5), 7, 8, (-7), 5, (-6), (-5), 1, 2, (-1), 3, (-4), (-3), 1, (-2), (-1)], true) := by decide +kernel
theorem best_8_5 : pebble_Best.f 3300 8 5 = some ([1, 2, (-1), 3, 4, (-3), 5, 6, (-5), 7, 8, (-7), 5, (-6), (-5), 1, 3, (-4), (-3), (-2), (-1)], true) := by decide +kernel

end Go.Proofs.Ytpkamififbhheaa.Pure
