/- the reference's Best, up to 7 nodes: each case computed. -/
import Derived.Test.YtpkamififbhheaaPAlly3
namespace Go.Proofs.Ytpkamififbhheaa.Pure
open Go.RowKit Go.Proofs.Ytpkamififbhheaa.PAll

theorem refbest_1_1 : backstepref44_Best.f 6000 1 1 = some ([1], true) := by decide +kernel
theorem refbest_1_2 : backstepref44_Best.f 6000 1 2 = some ([1], true) := by decide +kernel
theorem refbest_1_3 : backstepref44_Best.f 6000 1 3 = some ([1], true) := by decide +kernel
theorem refbest_1_4 : backstepref44_Best.f 6000 1 4 = some ([1], true) := by decide +kernel
theorem refbest_1_5 : backstepref44_Best.f 6000 1 5 = some ([1], true) := by decide +kernel
theorem refbest_1_6 : backstepref44_Best.f 6000 1 6 = some ([1], true) := by decide +kernel
theorem refbest_1_7 : backstepref44_Best.f 6000 1 7 = some ([1], true) := by decide +kernel
theorem refbest_1_8 : backstepref44_Best.f 6000 1 8 = some ([1], true) := by decide +kernel
theorem refbest_2_1 : backstepref44_Best.f 6000 2 1 = some ([], false) := by decide +kernel
theorem refbest_2_2 : backstepref44_Best.f 6000 2 2 = some ([1, 2, (-1)], true) := by decide +kernel
theorem refbest_2_3 : backstepref44_Best.f 6000 2 3 = some ([1, 2, (-1)], true) := by decide +kernel
theorem refbest_2_4 : backstepref44_Best.f 6000 2 4 = some ([1, 2, (-1)], true) := by decide +kernel
theorem refbest_2_5 : backstepref44_Best.f 6000 2 5 = some ([1, 2, (-1)], true) := by decide +kernel
theorem refbest_2_6 : backstepref44_Best.f 6000 2 6 = some ([1, 2, (-1)], true) := by decide +kernel
theorem refbest_2_7 : backstepref44_Best.f 6000 2 7 = some ([1, 2, (-1)], true) := by decide +kernel
theorem refbest_2_8 : backstepref44_Best.f 6000 2 8 = some ([1, 2, (-1)], true) := by decide +kernel
theorem refbest_3_1 : backstepref44_Best.f 6000 3 1 = some ([], false) := by decide +kernel
theorem refbest_3_2 : backstepref44_Best.f 6000 3 2 = some ([], false) := by decide +kernel
theorem refbest_3_3 : backstepref44_Best.f 6000 3 3 = some ([1, 2, 3, (-2), (-1)], true) := by decide +kernel
theorem refbest_3_4 : backstepref44_Best.f 6000 3 4 = some ([1, 2, 3, (-2), (-1)], true) := by decide +kernel
theorem refbest_3_5 : backstepref44_Best.f 6000 3 5 = some ([1, 2, 3, (-2), (-1)], true) := by decide +kernel
theorem refbest_3_6 : backstepref44_Best.f 6000 3 6 = some ([1, 2, 3, (-2), (-1)], true) := by decide +kernel
theorem refbest_3_7 : backstepref44_Best.f 6000 3 7 = some ([1, 2, 3, (-2), (-1)], true) := by decide +kernel
theorem refbest_3_8 : backstepref44_Best.f 6000 3 8 = some ([1, 2, 3, (-2), (-1)], true) := by decide +kernel
theorem refbest_4_1 : backstepref44_Best.f 6000 4 1 = some ([], false) := by decide +kernel
theorem refbest_4_2 : backstepref44_Best.f 6000 4 2 = some ([], false) := by decide +kernel
theorem refbest_4_3 : backstepref44_Best.f 6000 4 3 = some ([1, 2, (-1), 3, 4, (-3), 1, (-2), (-1)], true) := by decide +kernel
theorem refbest_4_4 : backstepref44_Best.f 6000 4 4 = some ([1, 2, 3, 4, (-3), (-2), (-1)], true) := by decide +kernel
theorem refbest_4_5 : backstepref44_Best.f 6000 4 5 = some ([1, 2, 3, 4, (-3), (-2), (-1)], true) := by decide +kernel
theorem refbest_4_6 : backstepref44_Best.f 6000 4 6 = some ([1, 2, 3, 4, (-3), (-2), (-1)], true) := by decide +kernel
theorem refbest_4_7 : backstepref44_Best.f 6000 4 7 = some ([1, 2, 3, 4, (-3), (-2), (-1)], true) := by decide +kernel
theorem refbest_4_8 : backstepref44_Best.f 6000 4 8 = some ([1, 2, 3, 4, (-3), (-2), (-1)], true) := by decide +kernel
theorem refbest_5_1 : backstepref44_Best.f 6000 5 1 = some ([], false) := by decide +kernel
theorem refbest_5_2 : backstepref44_Best.f 6000 5 2 = some ([], false) := by decide +kernel
theorem refbest_5_3 : backstepref44_Best.f 6000 5 3 = some ([], false) := by decide +kernel
theorem refbest_5_4 : backstepref44_Best.f 6000 5 4 = some ([1, 2, (-1), 3, 4, 5, (-4), (-3), 1, (-2), (-1)], true) := by decide +kernel
theorem refbest_5_5 : backstepref44_Best.f 6000 5 5 = some ([1, 2, 3, 4, 5, (-4), (-3), (-2), (-1)], true) := by decide +kernel
theorem refbest_5_6 : backstepref44_Best.f 6000 5 6 = some ([1, 2, 3, 4, 5, (-4), (-3), (-2), (-1)], true) := by decide +kernel
theorem refbest_5_7 : backstepref44_Best.f 6000 5 7 = some ([1, 2, 3, 4, 5, (-4), (-3), (-2), (-1)], true) := by decide +kernel
theorem refbest_5_8 : backstepref44_Best.f 6000 5 8 = some ([1, 2, 3, 4, 5, (-4), (-3), (-2), (-1)], true) := by decide +kernel
theorem refbest_6_1 : backstepref44_Best.f 6000 6 1 = some ([], false) := by decide +kernel
theorem refbest_6_2 : backstepref44_Best.f 6000 6 2 = some ([], false) := by decide +kernel
theorem refbest_6_3 : backstepref44_Best.f 6000 6 3 = some ([], false) := by decide +kernel
theorem refbest_6_4 : backstepref44_Best.f 6000 6 4 = some ([1, 2, (-1), 3, 4, (-3), 5, 6, (-5), 3, (-4), (-3), 1, (-2), (-1)], true) := by decide +kernel
theorem refbest_6_5 : backstepref44_Best.f 6000 6 5 = some ([1, 2, (-1), 3, 4, 5, 6, (-5), (-4), (-3), 1, (-2), (-1)], true) := by decide +kernel
theorem refbest_6_6 : backstepref44_Best.f 6000 6 6 = some ([1, 2, 3, 4, 5, 6, (-5), (-4), (-3), (-2), (-1)], true) := by decide +kernel
theorem refbest_6_7 : backstepref44_Best.f 6000 6 7 = some ([1, 2, 3, 4, 5, 6, (-5), (-4), (-3), (-2), (-1)], true) := by decide +kernel
theorem refbest_6_8 : backstepref44_Best.f 6000 6 8 = some ([1, 2, 3, 4, 5, 6, (-5), (-4), (-3), (-2), (-1)], true) := by decide +kernel
theorem refbest_7_1 : backstepref44_Best.f 6000 7 1 = some ([], false) := by decide +kernel
theorem refbest_7_2 : backstepref44_Best.f 6000 7 2 = some ([], false) := by decide +kernel
theorem refbest_7_3 : backstepref44_Best.f 6000 7 3 = some ([], false) := by decide +kernel
theorem refbest_7_4 : backstepref44_Best.f 6000 7 4 = some ([1, 2, 3, (-2), (-1), 4, 5, (-4), 6, 7, (-6), 4, (-5), (-4), 1, 2, (-3), (-2), (-1)], true) := by decide +kernel
theorem refbest_7_5 : backstepref44_Best.f 6000 7 5 = some ([1, 2, (-1), 3, 4, (-3), 5, 6, 7, (-6), (-5), 1, 3, (-4), (-3), (-2), (-1)], true) := by decide +kernel
theorem refbest_7_6 : backstepref44_Best.f 6000 7 6 = some ([1, 2, (-1), 3, 4, 5, 6, 7, (-6), (-5), (-4), (-3), 1, (-2), (-1)], true) := by decide +kernel
theorem refbest_7_7 : backstepref44_Best.f 6000 7 7 = some ([1, 2, 3, 4, 5, 6, 7, (-6), (-5), (-4), (-3), (-2), (-1)], true) := by decide +kernel
theorem refbest_7_8 : backstepref44_Best.f 6000 7 8 = some ([1, 2, 3, 4, 5, 6, 7, (-6), (-5), (-4), (-3), (-2), (-1)], true) := by decide +kernel

end Go.Proofs.Ytpkamififbhheaa.Pure
