/- pebble.Best, 8 nodes, 6 to 8 pebbles: each case computed. -/
import Derived.Test.YtpkamififbhheaaBst
namespace Go.Proofs.Ytpkamififbhheaa.Pure
open Go.RowKit Go.Proofs.Ytpkamififbhheaa.PAll

theorem best_8_6 : pebble_Best.f 3300 8 6 = some ([1, 2, (-1), 3, 4, (-3), 5, 6, 7, 8, (-7), (-6), (-5), 1, 3, (-4), (-3), (-2), (-1)], true) := by decide +kernel
theorem best_8_7 : pebble_Best.f 3300 8 7 = some ([1, 2, (-1), 3, 4, 5, 6, 7, 8, (-7), (-6), (-5), (-4), (-3), 1, (-2), (-1)], true) := by decide +kernel
theorem best_8_8 : pebble_Best.f 3300 8 8 = some ([1, 2, 3, 4, 5, 6, 7, 8, (-7), (-6), (-5), (-4), (-3), (-2), (-1)], true) := by decide +kernel

end Go.Proofs.Ytpkamififbhheaa.Pure
