/- the reference's Best, 8 nodes, 6 to 8 pebbles: each case computed. -/
import Derived.Test.YtpkamififbhheaaPAlly3
namespace Go.Proofs.Ytpkamififbhheaa.Pure
open Go.RowKit Go.Proofs.Ytpkamififbhheaa.PAll

theorem refbest_8_6 : backstepref44_Best.f 6000 8 6 = some ([1, 2, (-1), 3, 4, (-3), 5, 6, 7, 8, (-7), (-6), (-5), 1, 3, (-4), (-3), (-2), (-1)], true) := by decide +kernel
theorem refbest_8_7 : backstepref44_Best.f 6000 8 7 = some ([1, 2, (-1), 3, 4, 5, 6, 7, 8, (-7), (-6), (-5), (-4), (-3), 1, (-2), (-1)], true) := by decide +kernel
theorem refbest_8_8 : backstepref44_Best.f 6000 8 8 = some ([1, 2, 3, 4, 5, 6, 7, 8, (-7), (-6), (-5), (-4), (-3), (-2), (-1)], true) := by decide +kernel

end Go.Proofs.Ytpkamififbhheaa.Pure
