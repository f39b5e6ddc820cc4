/- Lemmas and walks of one claim, packed into one text by a program (wip/shake.py). -/
import Derived.ChangeArms
import Derived.DataElems
import Derived.OpenShut
import Derived.ProofKit
import Derived.WalkKit
import Derived.Test.YtgcdeablfoomhaaLe5
section
namespace Go.Proofs.Ytgcdeablfoomhaa.PAll
open Go.RowKit Go.Proofs.YtgcdeablfoomhaaW.PrintWords Go.Proofs.YtgcdeablfoomhaaW.PrintLast Go.Proofs.YtgcdeablfoomhaaW.PrintMore
attribute [local go_sem] max2_int min2_int max_two min_two max_three min_three max_four min_four   -- for this text's walks alone
set_option linter.unusedVariables false
set_option linter.unusedSimpArgs false
mutual
def backstepref12_Compare.j4 : Nat → List Int → List Int → Option (Int)
  | 0, _, _ => none
  | k + 1, x5, x6 => backstepref12_Compare.l2 k x5 x6 0
def backstepref12_Compare.l2 : Nat → List Int → List Int → Int → Option (Int)
  | 0, _, _, _ => none
  | k + 1, x5, x6, x11 => if x11 < (x5.length : Int) then (backstepref12_Compare.j6 k x5 x6 x11 (decide (x11 < (x6.length : Int)))) else (backstepref12_Compare.j6 k x5 x6 x11 false)
def backstepref12_Compare.j6 : Nat → List Int → List Int → Int → Bool → Option (Int)
  | 0, _, _, _, _ => none
  | k + 1, x5, x6, x11, x116 => if x116 = true then (if 0 ≤ x11 then (if x11 < (x5.length : Int) then (if x11 < (x6.length : Int) then (if (rd x5 x11) < (rd x6 x11) then (some (-1)) else (if (rd x5 x11) > (rd x6 x11) then (some 1) else (backstepref12_Compare.l2 k x5 x6 (wrap64 (x11 + 1))))) else (none)) else (none)) else (none)) else (some 0)
def backstepref12_Compare.l0 : Nat → List Int → List Int → List (List Int) → List (List Int) → Int → Option (Int)
  | 0, _, _, _, _, _ => none
  | k + 1, x5, x6, x7, x8, x9 => if x9 < (x7.length : Int) then (backstepref12_Compare.j1 k x5 x6 x7 x8 x9 (decide (x9 < (x8.length : Int)))) else (backstepref12_Compare.j1 k x5 x6 x7 x8 x9 false)
def backstepref12_Compare.j1 : Nat → List Int → List Int → List (List Int) → List (List Int) → Int → Bool → Option (Int)
  | 0, _, _, _, _, _, _ => none
  | k + 1, x5, x6, x7, x8, x9, x37 => if x37 = true then (if 0 ≤ x9 then (if x9 < (x7.length : Int) then (if x5.length < 17592186044416 then (if x9 < (x8.length : Int) then (if x6.length < 17592186044416 then (backstepref12_Compare.l1 k (x5 ++ [((rd_L4 x7 x9).length : Int)]) (x6 ++ [((rd_L4 x8 x9).length : Int)]) x7 x8 x9 0) else (none)) else (none)) else (none)) else (none)) else (none)) else (backstepref12_Compare.j4 k x5 x6)
def backstepref12_Compare.l1 : Nat → List Int → List Int → List (List Int) → List (List Int) → Int → Int → Option (Int)
  | 0, _, _, _, _, _, _ => none
  | k + 1, x5, x6, x7, x8, x9, x10 => if 0 ≤ x9 then (if x9 < (x7.length : Int) then (if x10 < ((rd_L4 x7 x9).length : Int) then (if x9 < (x8.length : Int) then (backstepref12_Compare.j3 k x5 x6 x7 x8 x9 x10 (decide (x10 < ((rd_L4 x8 x9).length : Int)))) else (none)) else (backstepref12_Compare.j3 k x5 x6 x7 x8 x9 x10 false)) else (none)) else (none)
def backstepref12_Compare.j3 : Nat → List Int → List Int → List (List Int) → List (List Int) → Int → Int → Bool → Option (Int)
  | 0, _, _, _, _, _, _, _ => none
  | k + 1, x5, x6, x7, x8, x9, x10, x71 => if x71 = true then (if 0 ≤ x9 then (if x9 < (x7.length : Int) then (if 0 ≤ x10 then (if x10 < ((rd_L4 x7 x9).length : Int) then ((backstepref12_Rank.f (rd (rd_L4 x7 x9) x10)).bind fun t188 => (if x5.length < 17592186044416 then (if x9 < (x8.length : Int) then (if x10 < ((rd_L4 x8 x9).length : Int) then ((backstepref12_Rank.f (rd (rd_L4 x8 x9) x10)).bind fun t194 => (if x6.length < 17592186044416 then (backstepref12_Compare.l1 k (x5 ++ [t188]) (x6 ++ [t194]) x7 x8 x9 (wrap64 (x10 + 1))) else (none))) else (none)) else (none)) else (none))) else (none)) else (none)) else (none)) else (none)) else (if 0 ≤ x9 then (if x9 < (x7.length : Int) then (if x9 < (x8.length : Int) then (if ((rd_L4 x7 x9).length : Int) = ((rd_L4 x8 x9).length : Int) then (backstepref12_Compare.l0 k x5 x6 x7 x8 (wrap64 (x9 + 1))) else (backstepref12_Compare.j4 k x5 x6)) else (none)) else (none)) else (none))
end
def backstepref12_Compare.f (k : Nat) (l0_0 : List (List Int)) (l0_1 : List Int) (l0_2 : List Int) (l1_0 : List (List Int)) (l1_1 : List Int) (l1_2 : List Int) : Option (Int) := (backstepref12_Weight.f k l0_0 l0_1 l0_2).bind fun t162 => ((backstepref12_Weight.f k l1_0 l1_1 l1_2).bind fun t166 => ((backstepref12_lists.f k l0_0 l0_1 l0_2).bind fun t170 => ((backstepref12_lists.f k l1_0 l1_1 l1_2).bind fun t173 => (backstepref12_Compare.l0 k (([t162, (l0_0.length : Int)] : List Int)) (([t166, (l1_0.length : Int)] : List Int)) t170 t173 0))))
theorem backstepref12_Compare.mono_l : ∀ k, (∀ y0 y1, LeO (backstepref12_Compare.j4 k y0 y1) (backstepref12_Compare.j4 (k + 1) y0 y1)) ∧ (∀ y0 y1 y2, LeO (backstepref12_Compare.l2 k y0 y1 y2) (backstepref12_Compare.l2 (k + 1) y0 y1 y2)) ∧ (∀ y0 y1 y2 y3, LeO (backstepref12_Compare.j6 k y0 y1 y2 y3) (backstepref12_Compare.j6 (k + 1) y0 y1 y2 y3)) ∧ (∀ y0 y1 y2 y3 y4, LeO (backstepref12_Compare.l0 k y0 y1 y2 y3 y4) (backstepref12_Compare.l0 (k + 1) y0 y1 y2 y3 y4)) ∧ (∀ y0 y1 y2 y3 y4 y5, LeO (backstepref12_Compare.j1 k y0 y1 y2 y3 y4 y5) (backstepref12_Compare.j1 (k + 1) y0 y1 y2 y3 y4 y5)) ∧ (∀ y0 y1 y2 y3 y4 y5, LeO (backstepref12_Compare.l1 k y0 y1 y2 y3 y4 y5) (backstepref12_Compare.l1 (k + 1) y0 y1 y2 y3 y4 y5)) ∧ (∀ y0 y1 y2 y3 y4 y5 y6, LeO (backstepref12_Compare.j3 k y0 y1 y2 y3 y4 y5 y6) (backstepref12_Compare.j3 (k + 1) y0 y1 y2 y3 y4 y5 y6))
  | 0 => ⟨fun _ _ r h => by simp [backstepref12_Compare.j4] at h, fun _ _ _ r h => by simp [backstepref12_Compare.l2] at h, fun _ _ _ _ r h => by simp [backstepref12_Compare.j6] at h, fun _ _ _ _ _ r h => by simp [backstepref12_Compare.l0] at h, fun _ _ _ _ _ _ r h => by simp [backstepref12_Compare.j1] at h, fun _ _ _ _ _ _ r h => by simp [backstepref12_Compare.l1] at h, fun _ _ _ _ _ _ _ r h => by simp [backstepref12_Compare.j3] at h⟩
  | k + 1 => by
    obtain ⟨ih0, ih1, ih2, ih3, ih4, ih5, ih6⟩ := backstepref12_Compare.mono_l k
    refine ⟨?_, ?_, ?_, ?_, ?_, ?_, ?_⟩
    · intro y0 y1
      unfold backstepref12_Compare.j4
      repeat' first
      | (with_reducible exact ih0 _ _)
      | (with_reducible exact ih1 _ _ _)
      | (with_reducible exact ih2 _ _ _ _)
      | (with_reducible exact ih3 _ _ _ _ _)
      | (with_reducible exact ih4 _ _ _ _ _ _)
      | (with_reducible exact ih5 _ _ _ _ _ _)
      | (with_reducible exact ih6 _ _ _ _ _ _ _)
      | (with_reducible exact backstepref12_Weight.mono _ _ _ _)
      | (with_reducible exact backstepref12_lists.mono _ _ _ _)
      | (with_reducible exact LeO.refl _)
      | (with_reducible exact LeO.none _)
      | (with_reducible refine LeO.ite ?_ ?_)
      | (with_reducible refine LeO.bind ?_ (fun _ => ?_))
      | exact ih0 _ _
      | exact ih1 _ _ _
      | exact ih2 _ _ _ _
      | exact ih3 _ _ _ _ _
      | exact ih4 _ _ _ _ _ _
      | exact ih5 _ _ _ _ _ _
      | exact ih6 _ _ _ _ _ _ _
      | exact backstepref12_Weight.mono _ _ _ _
      | exact backstepref12_lists.mono _ _ _ _
      | exact LeO.none _
      | refine LeO.ite ?_ ?_
      | refine LeO.bind ?_ (fun _ => ?_)
    · intro y0 y1 y2
      unfold backstepref12_Compare.l2
      repeat' first
      | (with_reducible exact ih0 _ _)
      | (with_reducible exact ih1 _ _ _)
      | (with_reducible exact ih2 _ _ _ _)
      | (with_reducible exact ih3 _ _ _ _ _)
      | (with_reducible exact ih4 _ _ _ _ _ _)
      | (with_reducible exact ih5 _ _ _ _ _ _)
      | (with_reducible exact ih6 _ _ _ _ _ _ _)
      | (with_reducible exact backstepref12_Weight.mono _ _ _ _)
      | (with_reducible exact backstepref12_lists.mono _ _ _ _)
      | (with_reducible exact LeO.refl _)
      | (with_reducible exact LeO.none _)
      | (with_reducible refine LeO.ite ?_ ?_)
      | (with_reducible refine LeO.bind ?_ (fun _ => ?_))
      | exact ih0 _ _
      | exact ih1 _ _ _
      | exact ih2 _ _ _ _
      | exact ih3 _ _ _ _ _
      | exact ih4 _ _ _ _ _ _
      | exact ih5 _ _ _ _ _ _
      | exact ih6 _ _ _ _ _ _ _
      | exact backstepref12_Weight.mono _ _ _ _
      | exact backstepref12_lists.mono _ _ _ _
      | exact LeO.none _
      | refine LeO.ite ?_ ?_
      | refine LeO.bind ?_ (fun _ => ?_)
    · intro y0 y1 y2 y3
      unfold backstepref12_Compare.j6
      repeat' first
      | (with_reducible exact ih0 _ _)
      | (with_reducible exact ih1 _ _ _)
      | (with_reducible exact ih2 _ _ _ _)
      | (with_reducible exact ih3 _ _ _ _ _)
      | (with_reducible exact ih4 _ _ _ _ _ _)
      | (with_reducible exact ih5 _ _ _ _ _ _)
      | (with_reducible exact ih6 _ _ _ _ _ _ _)
      | (with_reducible exact backstepref12_Weight.mono _ _ _ _)
      | (with_reducible exact backstepref12_lists.mono _ _ _ _)
      | (with_reducible exact LeO.refl _)
      | (with_reducible exact LeO.none _)
      | (with_reducible refine LeO.ite ?_ ?_)
      | (with_reducible refine LeO.bind ?_ (fun _ => ?_))
      | exact ih0 _ _
      | exact ih1 _ _ _
      | exact ih2 _ _ _ _
      | exact ih3 _ _ _ _ _
      | exact ih4 _ _ _ _ _ _
      | exact ih5 _ _ _ _ _ _
      | exact ih6 _ _ _ _ _ _ _
      | exact backstepref12_Weight.mono _ _ _ _
      | exact backstepref12_lists.mono _ _ _ _
      | exact LeO.none _
      | refine LeO.ite ?_ ?_
      | refine LeO.bind ?_ (fun _ => ?_)
    · intro y0 y1 y2 y3 y4
      unfold backstepref12_Compare.l0
      repeat' first
      | (with_reducible exact ih0 _ _)
      | (with_reducible exact ih1 _ _ _)
      | (with_reducible exact ih2 _ _ _ _)
      | (with_reducible exact ih3 _ _ _ _ _)
      | (with_reducible exact ih4 _ _ _ _ _ _)
      | (with_reducible exact ih5 _ _ _ _ _ _)
      | (with_reducible exact ih6 _ _ _ _ _ _ _)
      | (with_reducible exact backstepref12_Weight.mono _ _ _ _)
      | (with_reducible exact backstepref12_lists.mono _ _ _ _)
      | (with_reducible exact LeO.refl _)
      | (with_reducible exact LeO.none _)
      | (with_reducible refine LeO.ite ?_ ?_)
      | (with_reducible refine LeO.bind ?_ (fun _ => ?_))
      | exact ih0 _ _
      | exact ih1 _ _ _
      | exact ih2 _ _ _ _
      | exact ih3 _ _ _ _ _
      | exact ih4 _ _ _ _ _ _
      | exact ih5 _ _ _ _ _ _
      | exact ih6 _ _ _ _ _ _ _
      | exact backstepref12_Weight.mono _ _ _ _
      | exact backstepref12_lists.mono _ _ _ _
      | exact LeO.none _
      | refine LeO.ite ?_ ?_
      | refine LeO.bind ?_ (fun _ => ?_)
    · intro y0 y1 y2 y3 y4 y5
      unfold backstepref12_Compare.j1
      repeat' first
      | (with_reducible exact ih0 _ _)
      | (with_reducible exact ih1 _ _ _)
      | (with_reducible exact ih2 _ _ _ _)
      | (with_reducible exact ih3 _ _ _ _ _)
      | (with_reducible exact ih4 _ _ _ _ _ _)
      | (with_reducible exact ih5 _ _ _ _ _ _)
      | (with_reducible exact ih6 _ _ _ _ _ _ _)
      | (with_reducible exact backstepref12_Weight.mono _ _ _ _)
      | (with_reducible exact backstepref12_lists.mono _ _ _ _)
      | (with_reducible exact LeO.refl _)
      | (with_reducible exact LeO.none _)
      | (with_reducible refine LeO.ite ?_ ?_)
      | (with_reducible refine LeO.bind ?_ (fun _ => ?_))
      | exact ih0 _ _
      | exact ih1 _ _ _
      | exact ih2 _ _ _ _
      | exact ih3 _ _ _ _ _
      | exact ih4 _ _ _ _ _ _
      | exact ih5 _ _ _ _ _ _
      | exact ih6 _ _ _ _ _ _ _
      | exact backstepref12_Weight.mono _ _ _ _
      | exact backstepref12_lists.mono _ _ _ _
      | exact LeO.none _
      | refine LeO.ite ?_ ?_
      | refine LeO.bind ?_ (fun _ => ?_)
    · intro y0 y1 y2 y3 y4 y5
      unfold backstepref12_Compare.l1
      repeat' first
      | (with_reducible exact ih0 _ _)
      | (with_reducible exact ih1 _ _ _)
      | (with_reducible exact ih2 _ _ _ _)
      | (with_reducible exact ih3 _ _ _ _ _)
      | (with_reducible exact ih4 _ _ _ _ _ _)
      | (with_reducible exact ih5 _ _ _ _ _ _)
      | (with_reducible exact ih6 _ _ _ _ _ _ _)
      | (with_reducible exact backstepref12_Weight.mono _ _ _ _)
      | (with_reducible exact backstepref12_lists.mono _ _ _ _)
      | (with_reducible exact LeO.refl _)
      | (with_reducible exact LeO.none _)
      | (with_reducible refine LeO.ite ?_ ?_)
      | (with_reducible refine LeO.bind ?_ (fun _ => ?_))
      | exact ih0 _ _
      | exact ih1 _ _ _
      | exact ih2 _ _ _ _
      | exact ih3 _ _ _ _ _
      | exact ih4 _ _ _ _ _ _
      | exact ih5 _ _ _ _ _ _
      | exact ih6 _ _ _ _ _ _ _
      | exact backstepref12_Weight.mono _ _ _ _
      | exact backstepref12_lists.mono _ _ _ _
      | exact LeO.none _
      | refine LeO.ite ?_ ?_
      | refine LeO.bind ?_ (fun _ => ?_)
    · intro y0 y1 y2 y3 y4 y5 y6
      unfold backstepref12_Compare.j3
      repeat' first
      | (with_reducible exact ih0 _ _)
      | (with_reducible exact ih1 _ _ _)
      | (with_reducible exact ih2 _ _ _ _)
      | (with_reducible exact ih3 _ _ _ _ _)
      | (with_reducible exact ih4 _ _ _ _ _ _)
      | (with_reducible exact ih5 _ _ _ _ _ _)
      | (with_reducible exact ih6 _ _ _ _ _ _ _)
      | (with_reducible exact backstepref12_Weight.mono _ _ _ _)
      | (with_reducible exact backstepref12_lists.mono _ _ _ _)
      | (with_reducible exact LeO.refl _)
      | (with_reducible exact LeO.none _)
      | (with_reducible refine LeO.ite ?_ ?_)
      | (with_reducible refine LeO.bind ?_ (fun _ => ?_))
      | exact ih0 _ _
      | exact ih1 _ _ _
      | exact ih2 _ _ _ _
      | exact ih3 _ _ _ _ _
      | exact ih4 _ _ _ _ _ _
      | exact ih5 _ _ _ _ _ _
      | exact ih6 _ _ _ _ _ _ _
      | exact backstepref12_Weight.mono _ _ _ _
      | exact backstepref12_lists.mono _ _ _ _
      | exact LeO.none _
      | refine LeO.ite ?_ ?_
      | refine LeO.bind ?_ (fun _ => ?_)
def backstepref12_Compare.T1 : Bool × List (List Nat × List Nat) := (true, [([], []), ([0], [0]), ([], []), ([2], [2]), ([3], [3]), ([1, 4], [1, 4]), ([], []), ([6, 1], [6]), ([], []), ([8], [8]), ([9], [9]), ([7, 10], [7, 10]), ([5, 7, 0, 1, 2, 3, 4, 5], [5]), ([11, 12, 0, 1, 2, 3, 4, 5, 6, 7, 8, 9, 10, 11, 12], [11])])
def backstepref12_Compare.B1 : List Nat := [0, 1, 0, 4, 12, 31, 0, 67, 0, 256, 768, 1987, 255, 8191]
theorem backstepref12_Compare.tab1 : rtab .any (opsOf Try.f15 1) = backstepref12_Compare.T1 := by kernel_rfl
theorem backstepref12_Compare.bits1 : waitsOk backstepref12_Compare.T1.2 backstepref12_Compare.B1 = true := by kernel_rfl
def backstepref12_Compare.T13 : Bool × List (List Nat × List Nat) := (true, [([], []), ([], []), ([0, 1], [0, 1]), ([2], [2]), ([3], [3]), ([], []), ([], []), ([5, 6], [5, 6]), ([7], [7]), ([8], [8]), ([4, 9], [4, 9])])
def backstepref12_Compare.B13 : List Nat := [0, 0, 3, 7, 15, 0, 0, 96, 224, 480, 1023]
theorem backstepref12_Compare.tab13 : rtab .any (opsOf Try.f15 13) = backstepref12_Compare.T13 := by kernel_rfl
theorem backstepref12_Compare.bits13 : waitsOk backstepref12_Compare.T13.2 backstepref12_Compare.B13 = true := by kernel_rfl
def backstepref12_Compare.T17 : Bool × List (List Nat × List Nat) := (true, [([], []), ([], []), ([0, 1], [0, 1]), ([2], [2]), ([], []), ([], []), ([4, 5], [4, 5]), ([6], [6]), ([3, 7], [3, 7])])
def backstepref12_Compare.B17 : List Nat := [0, 0, 3, 7, 0, 0, 48, 112, 255]
theorem backstepref12_Compare.tab17 : rtab .any (opsOf Try.f15 17) = backstepref12_Compare.T17 := by kernel_rfl
theorem backstepref12_Compare.bits17 : waitsOk backstepref12_Compare.T17.2 backstepref12_Compare.B17 = true := by kernel_rfl
def backstepref12_Compare.T19 : Bool × List (List Nat × List Nat) := (true, [([], []), ([], []), ([0, 1], [0, 1]), ([2], [2]), ([], []), ([], []), ([4, 5], [4, 5]), ([6], [6]), ([3, 7], [3, 7])])
def backstepref12_Compare.B19 : List Nat := [0, 0, 3, 7, 0, 0, 48, 112, 255]
theorem backstepref12_Compare.tab19 : rtab .any (opsOf Try.f15 19) = backstepref12_Compare.T19 := by kernel_rfl
theorem backstepref12_Compare.bits19 : waitsOk backstepref12_Compare.T19.2 backstepref12_Compare.B19 = true := by kernel_rfl
set_option maxHeartbeats 8000000 in
set_option maxRecDepth 100000 in
theorem backstepref12_Compare.calls (k : Nat) (A0_0 : Option Addr) (c0_0 : Nat) (l0_0 : List (List Int)) (A0_1 : Option Addr) (c0_1 : Nat) (l0_1 : List Int) (A0_2 : Option Addr) (c0_2 : Nat) (l0_2 : List Int) (A1_0 : Option Addr) (c1_0 : Nat) (l1_0 : List (List Int)) (A1_1 : Option Addr) (c1_1 : Nat) (l1_1 : List Int) (A1_2 : Option Addr) (c1_2 : Nat) (l1_2 : List Int) (r : Int) (w : World) (hr0_0 : Kd.C (Kd.slice 3 (Kd.int .i64)) w A0_0 l0_0.length l0_0) (hc0_0 : l0_0.length ≤ c0_0) (hr0_1 : Kd.C (Kd.int .i64) w A0_1 l0_1.length l0_1) (hc0_1 : l0_1.length ≤ c0_1) (hr0_2 : Kd.C (Kd.int .i64) w A0_2 l0_2.length l0_2) (hc0_2 : l0_2.length ≤ c0_2) (hr1_0 : Kd.C (Kd.slice 3 (Kd.int .i64)) w A1_0 l1_0.length l1_0) (hc1_0 : l1_0.length ≤ c1_0) (hr1_1 : Kd.C (Kd.int .i64) w A1_1 l1_1.length l1_1) (hc1_1 : l1_1.length ≤ c1_1) (hr1_2 : Kd.C (Kd.int .i64) w A1_2 l1_2.length l1_2) (hc1_2 : l1_2.length ≤ c1_2) (h : backstepref12_Compare.f k l0_0 l0_1 l0_2 l1_0 l1_1 l1_2 = some r) :
    Calls Try.prog 15 #[.agg #[.slice A0_0 l0_0.length c0_0, .slice A0_1 l0_1.length c0_1, .slice A0_2 l0_2.length c0_2], .agg #[.slice A1_0 l1_0.length c1_0, .slice A1_1 l1_1.length c1_1, .slice A1_2 l1_2.length c1_2]] w fun e w' => e = .returned (.int .i64 r) ∧ Below w.heap.size w w' := by
  have hu35 := Try.underlying35
  have HR0_0 := Aside0.mk hr0_0
  have HC0_0 := Aside0.mk hc0_0
  clear hr0_0 hc0_0
  have HR0_1 := Aside0.mk hr0_1
  have HC0_1 := Aside0.mk hc0_1
  clear hr0_1 hc0_1
  have HR0_2 := Aside0.mk hr0_2
  have HC0_2 := Aside0.mk hc0_2
  clear hr0_2 hc0_2
  have HR1_0 := Aside0.mk hr1_0
  have HC1_0 := Aside0.mk hc1_0
  clear hr1_0 hc1_0
  have HR1_1 := Aside0.mk hr1_1
  have HC1_1 := Aside0.mk hc1_1
  clear hr1_1 hc1_1
  have HR1_2 := Aside0.mk hr1_2
  have HC1_2 := Aside0.mk hc1_2
  clear hr1_2 hc1_2
  have HB := Aside0.mk (Below.refl w.heap.size w)
  have H : ((backstepref12_Weight.f k l0_0 l0_1 l0_2).bind fun t162 => ((backstepref12_Weight.f k l1_0 l1_1 l1_2).bind fun t166 => ((backstepref12_lists.f k l0_0 l0_1 l0_2).bind fun t170 => ((backstepref12_lists.f k l1_0 l1_1 l1_2).bind fun t173 => (backstepref12_Compare.l0 k (([t162, (l0_0.length : Int)] : List Int)) (([t166, (l1_0.length : Int)] : List Int)) t170 t173 0))))) = some r := h
  clear h
  replace H := Option.bind_eq_some_iff.mp H
  obtain ⟨t162, A30, H⟩ := H
  replace H : ((backstepref12_Weight.f k l1_0 l1_1 l1_2).bind fun t166 => ((backstepref12_lists.f k l0_0 l0_1 l0_2).bind fun t170 => ((backstepref12_lists.f k l1_0 l1_1 l1_2).bind fun t173 => (backstepref12_Compare.l0 k (([t162, (l0_0.length : Int)] : List Int)) (([t166, (l1_0.length : Int)] : List Int)) t170 t173 0)))) = some r := H
  have A3 := Aside0.mk A30
  clear A30
  obtain ⟨y163, hy163⟩ : ∃ y_ : List Int, y_ = (([t162, (l0_0.length : Int)] : List Int)) := ⟨_, rfl⟩
  replace H : ((backstepref12_Weight.f k l1_0 l1_1 l1_2).bind fun t166 => ((backstepref12_lists.f k l0_0 l0_1 l0_2).bind fun t170 => ((backstepref12_lists.f k l1_0 l1_1 l1_2).bind fun t173 => (backstepref12_Compare.l0 k y163 (([t166, (l1_0.length : Int)] : List Int)) t170 t173 0)))) = some r := by first | (rw [hy163]; with_reducible exact H) | (have H2_ := (Option.bind_some _ _).symm.trans H; rw [hy163]; with_reducible exact H2_) | (have H2_ := (Option.bind_some _ _).symm.trans H; with_reducible exact H2_) | with_reducible exact H | (rw [hy163]; exact H) | exact H
  have Ny163 := Aside0.mk hy163
  clear hy163
  replace H := Option.bind_eq_some_iff.mp H
  obtain ⟨t166, A40, H⟩ := H
  replace H : ((backstepref12_lists.f k l0_0 l0_1 l0_2).bind fun t170 => ((backstepref12_lists.f k l1_0 l1_1 l1_2).bind fun t173 => (backstepref12_Compare.l0 k y163 (([t166, (l1_0.length : Int)] : List Int)) t170 t173 0))) = some r := H
  have A4 := Aside0.mk A40
  clear A40
  obtain ⟨y167, hy167⟩ : ∃ y_ : List Int, y_ = (([t166, (l1_0.length : Int)] : List Int)) := ⟨_, rfl⟩
  replace H : ((backstepref12_lists.f k l0_0 l0_1 l0_2).bind fun t170 => ((backstepref12_lists.f k l1_0 l1_1 l1_2).bind fun t173 => (backstepref12_Compare.l0 k y163 y167 t170 t173 0))) = some r := by first | (rw [hy167]; with_reducible exact H) | (have H2_ := (Option.bind_some _ _).symm.trans H; rw [hy167]; with_reducible exact H2_) | (have H2_ := (Option.bind_some _ _).symm.trans H; with_reducible exact H2_) | with_reducible exact H | (rw [hy167]; exact H) | exact H
  have Ny167 := Aside0.mk hy167
  clear hy167
  replace H := Option.bind_eq_some_iff.mp H
  obtain ⟨t170, A50, H⟩ := H
  replace H : ((backstepref12_lists.f k l1_0 l1_1 l1_2).bind fun t173 => (backstepref12_Compare.l0 k y163 y167 t170 t173 0)) = some r := H
  have A5 := Aside0.mk A50
  clear A50
  replace H := Option.bind_eq_some_iff.mp H
  obtain ⟨t173, A60, H⟩ := H
  replace H : (backstepref12_Compare.l0 k y163 y167 t170 t173 0) = some r := H
  have A6 := Aside0.mk A60
  clear A60
  have HC7 := Aside0.mk H
  clear H
  go_enter Try.func15, Try.ntmps15
  try go_wp2_with (first | ((with_reducible refine gate_dst (N := 2) rfl ?_); (try (refine gate_guard (by rfl) ?_; dsimp only)); refine box_event ?hg (N := 2) ?hd (cs := #[.slice A0_0 l0_0.length c0_0, .slice A0_1 l0_1.length c0_1, .slice A0_2 l0_2.length c0_2]) (t := 35) ?hr ?_; (case hd => rfl); (case hg => rfl); (case hr => first | (go_simp; done) | (go_simp; rfl)); intro gb160 hg w8 hbox hb; have n0_ := Aside0.mk (below_step (by repeat (first | (with_reducible first | exact HB.out | apply below_alloc | apply pw_below_drewN | apply below_drew1) | exact HB.out)) hb); have n1_ := Aside0.mk (hbox); have n2_ := Aside0.mk ((by rw [hg]; exact (below_size (by repeat (first | (with_reducible first | exact HB.out | apply below_alloc | apply pw_below_drewN | apply below_drew1) | exact HB.out))) : w.heap.size ≤ gb160)); have n3_ := Aside0.mk ((by rw [hg]; exact (below_size (by repeat (first | (with_reducible first | exact HB.out | apply below_alloc | apply pw_below_drewN | apply below_drew1) | exact HB.out))) : w.heap.size ≤ gb160)); clear HB; have HB := n0_; have BK160 := n1_; have GW160 := n2_; have GE160 := n3_; clear n0_ n1_ n2_ n3_; clear hb hbox hg) | ((with_reducible refine gate_dst (N := 3) rfl ?_); (try (refine gate_guard (by rfl) ?_; dsimp only)); refine box_event ?hg (N := 3) ?hd (cs := #[.slice A1_0 l1_0.length c1_0, .slice A1_1 l1_1.length c1_1, .slice A1_2 l1_2.length c1_2]) (t := 35) ?hr ?_; (case hd => rfl); (case hg => rfl); (case hr => first | (go_simp; done) | (go_simp; rfl)); intro gb161 hg w9 hbox hb; have n0_ := Aside0.mk (blk_below (g := gb160) (o := .cells #[.slice A0_0 l0_0.length c0_0, .slice A0_1 l0_1.length c0_1, .slice A0_2 l0_2.length c0_2] 35 (0, 0)) (by (with_reducible repeat (first | refine blk_drewN ?_ _ | refine blk_drew ?_ | refine blk_alloc ?_ _)); exact BK160.out) hb); have n1_ := Aside0.mk (below_step (by repeat (first | (with_reducible first | exact HB.out | apply below_alloc | apply pw_below_drewN | apply below_drew1 | refine below_set ?_ GE160.out) | exact HB.out)) hb); have n2_ := Aside0.mk (hbox); have n3_ := Aside0.mk ((by rw [hg]; exact (below_size (by repeat (first | (with_reducible first | exact HB.out | apply below_alloc | apply pw_below_drewN | apply below_drew1 | refine below_set ?_ GE160.out) | exact HB.out))) : w.heap.size ≤ gb161)); have n4_ := Aside0.mk ((by rw [hg]; exact (below_size (by repeat (first | (with_reducible first | exact HB.out | apply below_alloc | apply pw_below_drewN | apply below_drew1 | refine below_set ?_ GE160.out) | exact HB.out))) : w.heap.size ≤ gb161)); have n5_ := Aside0.mk ((by rw [hg]; exact Nat.ne_of_lt (blk_lt (g := gb160) (o := .cells #[.slice A0_0 l0_0.length c0_0, .slice A0_1 l0_1.length c0_1, .slice A0_2 l0_2.length c0_2] 35 (0, 0)) (by (with_reducible repeat (first | refine blk_drewN ?_ _ | refine blk_drew ?_ | refine blk_alloc ?_ _)); exact BK160.out)) : gb160 ≠ gb161)); have n6_ := Aside0.mk ((by rw [hg]; exact Nat.ne_of_gt (blk_lt (g := gb160) (o := .cells #[.slice A0_0 l0_0.length c0_0, .slice A0_1 l0_1.length c0_1, .slice A0_2 l0_2.length c0_2] 35 (0, 0)) (by (with_reducible repeat (first | refine blk_drewN ?_ _ | refine blk_drew ?_ | refine blk_alloc ?_ _)); exact BK160.out)) : gb161 ≠ gb160)); clear BK160; clear HB; have BK160 := n0_; have HB := n1_; have BK161 := n2_; have GW161 := n3_; have GE161 := n4_; have NB160_161 := n5_; have NB161_160 := n6_; clear n0_ n1_ n2_ n3_ n4_ n5_ n6_; clear hb hbox hg))
  have n0_ := Aside0.mk (blk_drew BK160.out)
  have n1_ := Aside0.mk (blk_drew BK161.out)
  have n2_ := Aside0.mk (below_drew1 HB.out)
  clear BK160
  clear BK161
  clear HB
  have BK160 := n0_
  have BK161 := n1_
  have HB := n2_
  clear n0_ n1_ n2_
  refine start_ (n := 14) (S := fun w' => True) (ds := []) #[false, false, false, false, false, false, false, false, false, false, false, false, false, false] (by kernel_rfl) rfl rfl trivial (fun hHeld => ?_); refine with_tabW backstepref12_Compare.tab1 backstepref12_Compare.bits1 (fun HT_ HW_ => ?_)
  generalize w9.drew = w10 at BK160 BK161 HB hHeld ⊢
  refine pure_ (i := 2) (N := some 14) (v := ?_) (a' := ?_) #[false, false, true, false, false, false, false, false, false, false, false, false, false, false] rfl rfl (any_of HT_.out (by kernel_rfl)) (fun _ _ _ h => h) (Or.inl ⟨by rfl, ?_⟩) ?_ ?_
  rotate_left
  · intro w'
    go_simp
    with_reducible rfl
  rotate_left
  · simp only [Act.put, List.setIfInBounds_toArray, List.set_cons_zero, List.set_cons_succ, i64_w, i32_w]
    rfl
  refine pure_ (i := 8) (N := some 20) (v := ?_) (a' := ?_) #[false, false, true, false, false, false, false, false, true, false, false, false, false, false] rfl rfl (any_of HT_.out (by kernel_rfl)) (fun _ _ _ h => h) (Or.inl ⟨by rfl, ?_⟩) ?_ ?_
  rotate_left
  · intro w'
    go_simp
    with_reducible rfl
  rotate_left
  · simp only [Act.put, List.setIfInBounds_toArray, List.set_cons_zero, List.set_cons_succ, i64_w, i32_w]
    rfl
  refine inv_at [0, 1, 3, 4, 5, 6, 7, 9, 10, 11, 12, 13] (fun a0_ b a w' => ∃ (v164 : Value) (v168 : Value) (m12_ : Value) (m13_ : Value), a = putSel a0_ b [(0, 12, .agg #[.slice A0_0 l0_0.length c0_0, .slice A0_1 l0_1.length c0_1, .slice A0_2 l0_2.length c0_2]), (1, 13, .int .i64 t162), (3, 15, .slice A0_0 l0_0.length c0_0), (4, 16, .int .i64 (l0_0.length : Int)), (5, 17, v164), (6, 18, .agg #[.slice A1_0 l1_0.length c1_0, .slice A1_1 l1_1.length c1_1, .slice A1_2 l1_2.length c1_2]), (7, 19, .int .i64 t166), (9, 21, .slice A1_0 l1_0.length c1_0), (10, 22, .int .i64 (l1_0.length : Int)), (11, 23, v168), (12, 5, m12_), (13, 6, m13_)] ∧ (w'.heap[gb160]? = some (.cells #[.slice A0_0 l0_0.length c0_0, .slice A0_1 l0_1.length c0_1, .slice A0_2 l0_2.length c0_2] 35 (0, 0))) ∧ (w'.heap[gb161]? = some (.cells #[.slice A1_0 l1_0.length c1_0, .slice A1_1 l1_1.length c1_1, .slice A1_2 l1_2.length c1_2] 35 (0, 0))) ∧ (Below w.heap.size w w') ∧ (b 5 = true → Kd.R (Kd.int .i64) 3 w' w.heap.size (fun _ => True) v164 y163) ∧ (b 11 = true → Kd.R (Kd.int .i64) 3 w' w.heap.size (fun _ => True) v168 y167) ∧ (b 12 = true → (m12_ : Value) = v164) ∧ (b 13 = true → (m13_ : Value) = v168) ∧ (b 5 = true → b 11 = true → ∀ k_ : Nat, (v164 : Value).ownBlock = some k_ → (v168 : Value).ownBlock ≠ some k_)) HT_.out HW_.out (by kernel_rfl) (by kernel_rfl) ?_ ?_ ?_
  · exact ⟨.bool false, .bool false, .bool false, .bool false, by simp only [putSel, Bool.false_eq_true, if_false], BK160.out, BK161.out, HB.out, fun h_ => absurd h_ (by decide), fun h_ => absurd h_ (by decide), fun h_ => absurd h_ (by decide), fun h_ => absurd h_ (by decide), fun h_ => absurd h_ (by decide)⟩
  · skip
    clear BK160 BK161 HB
    refine steps_cons ?_ ?_
    · rintro b a w' ⟨v164, v168, m12_, m13_, ha, Q_BK160, Q_BK161, Q_HB, Q_HO165, Q_HO169, Q_X12_, Q_X13_, Q_NE⟩ hb_ hon hoff
      refine ⟨_, rfl, fun K hK => ?_⟩
      have e2 : a.tmps[2]? = some (.pointer (some ⟨gb160, 0, none⟩)) := by rw [ha]; exact (putSel_off rfl).trans rfl
      replace ha := Aside0.mk ha
      have BK160 := Aside0.mk Q_BK160
      have BK161 := Aside0.mk Q_BK161
      have HB := Aside0.mk Q_HB
      have hc0_ : w'.cell? ⟨gb160, 0, none⟩ = some (.slice A0_0 l0_0.length c0_0) := (blk_cell BK160.out 0).trans rfl
      have hc1_ : w'.cell? ⟨gb160, 1, none⟩ = some (.slice A0_1 l0_1.length c0_1) := (blk_cell BK160.out 1).trans rfl
      have hc2_ : w'.cell? ⟨gb160, 2, none⟩ = some (.slice A0_2 l0_2.length c0_2) := (blk_cell BK160.out 2).trans rfl
      refine value_ (w1 := w') (v := .agg #[.slice A0_0 l0_0.length c0_0, .slice A0_1 l0_1.length c0_1, .slice A0_2 l0_2.length c0_2]) (by rfl) rfl ?_ ?_
      · go_simp
        (try simp only [i64_w])
        try rfl
      refine hK.out _ _ ⟨v164, v168, m12_, m13_, (by rw [ha.out]; exact putSel_upk 0 hb_ rfl rfl rfl), Q_BK160, Q_BK161, Q_HB, fun h0_ => absurd ((hoff 5 (by kernel_rfl)).symm.trans h0_) (by decide), fun h0_ => absurd ((hoff 11 (by kernel_rfl)).symm.trans h0_) (by decide), fun h0_ => absurd ((hoff 12 (by kernel_rfl)).symm.trans h0_) (by decide), fun h0_ => absurd ((hoff 13 (by kernel_rfl)).symm.trans h0_) (by decide), Q_NE⟩
    refine steps_cons ?_ ?_
    · rintro b a w' ⟨v164, v168, m12_, m13_, ha, Q_BK160, Q_BK161, Q_HB, Q_HO165, Q_HO169, Q_X12_, Q_X13_, Q_NE⟩ hb_ hon hoff
      refine ⟨_, rfl, fun K hK => ?_⟩
      have e12 : a.tmps[12]? = some (.agg #[.slice A0_0 l0_0.length c0_0, .slice A0_1 l0_1.length c0_1, .slice A0_2 l0_2.length c0_2]) := by rw [ha]; exact putSel_on (e := (0, 12, .agg #[.slice A0_0 l0_0.length c0_0, .slice A0_1 l0_1.length c0_1, .slice A0_2 l0_2.length c0_2])) 0 rfl rfl (hon 0 (by kernel_rfl)) rfl
      replace ha := Aside0.mk ha
      have BK160 := Aside0.mk Q_BK160
      have BK161 := Aside0.mk Q_BK161
      have HB := Aside0.mk Q_HB
      refine goes_ Try.func21 (by kernel_rfl) rfl #[.agg #[.slice A0_0 l0_0.length c0_0, .slice A0_1 l0_1.length c0_1, .slice A0_2 l0_2.length c0_2]] (by rfl) rfl rfl (by first | (simp only [List.map_toArray, List.map_cons, List.map_nil, Act.eval, Array.getD_eq_getD_getElem?, Option.getD_some, e12]; done) | (simp only [List.map_toArray, List.map_cons, List.map_nil, Act.eval, Array.getD_eq_getD_getElem?, Option.getD_some, e12]; rfl)) ?_
      with_reducible refine (backstepref12_Weight.calls k _ _ l0_0 _ _ l0_1 _ _ l0_2 t162 _ ?side1 ?side2 ?side3 ?side4 ?side5 ?side6 A3.out).mono ?_
      (case side1 => repeat (first | exact (Kd.C_below HR0_0.out HB.out) | (with_reducible refine Kd.C_alloc ?_ _) | (with_reducible refine Kd.C_drewN ?_ _) | (with_reducible refine Kd.C_drew ?_)))
      (case side2 => exact HC0_0.out)
      (case side3 => repeat (first | exact (Kd.C_below HR0_1.out HB.out) | (with_reducible refine Kd.C_alloc ?_ _) | (with_reducible refine Kd.C_drewN ?_ _) | (with_reducible refine Kd.C_drew ?_)))
      (case side4 => exact HC0_1.out)
      (case side5 => repeat (first | exact (Kd.C_below HR0_2.out HB.out) | (with_reducible refine Kd.C_alloc ?_ _) | (with_reducible refine Kd.C_drewN ?_ _) | (with_reducible refine Kd.C_drew ?_)))
      (case side6 => exact HC0_2.out)
      rintro e w11 ⟨rfl, hb⟩
      refine ⟨_, rfl, ?_⟩
      have n0_ := Aside0.mk (blk_below (g := gb160) (o := .cells #[.slice A0_0 l0_0.length c0_0, .slice A0_1 l0_1.length c0_1, .slice A0_2 l0_2.length c0_2] 35 (0, 0)) (by (with_reducible repeat (first | refine blk_drewN ?_ _ | refine blk_drew ?_ | refine blk_alloc ?_ _)); exact BK160.out) hb)
      have n1_ := Aside0.mk (blk_below (g := gb161) (o := .cells #[.slice A1_0 l1_0.length c1_0, .slice A1_1 l1_1.length c1_1, .slice A1_2 l1_2.length c1_2] 35 (0, 0)) (by (with_reducible repeat (first | refine blk_drewN ?_ _ | refine blk_drew ?_ | refine blk_alloc ?_ _)); exact BK161.out) hb)
      have n2_ := Aside0.mk (below_step (by repeat (first | (with_reducible first | exact HB.out | apply below_alloc | apply pw_below_drewN | apply below_drew1 | refine below_set ?_ GE160.out | refine below_set ?_ GE161.out) | exact HB.out)) hb)
      clear BK160
      clear BK161
      clear HB
      have BK160 := n0_
      have BK161 := n1_
      have HB := n2_
      clear n0_ n1_ n2_
      (try clear hb)
      (try clear hb2)
      (try clear hk)
      (try clear hi)
      refine hK.out _ _ ⟨v164, v168, m12_, m13_, (by rw [ha.out]; exact putSel_upk 1 hb_ rfl rfl rfl), (by (with_reducible repeat (first | refine blk_drewN ?_ _ | refine blk_drew ?_ | refine blk_alloc ?_ _)); exact BK160.out), (by (with_reducible repeat (first | refine blk_drewN ?_ _ | refine blk_drew ?_ | refine blk_alloc ?_ _)); exact BK161.out), (by repeat (first | (with_reducible first | exact HB.out | apply below_alloc | apply pw_below_drewN | apply below_drew1 | refine below_set ?_ GE160.out | refine below_set ?_ GE161.out) | exact HB.out)), fun h0_ => absurd ((hoff 5 (by kernel_rfl)).symm.trans h0_) (by decide), fun h0_ => absurd ((hoff 11 (by kernel_rfl)).symm.trans h0_) (by decide), fun h0_ => absurd ((hoff 12 (by kernel_rfl)).symm.trans h0_) (by decide), fun h0_ => absurd ((hoff 13 (by kernel_rfl)).symm.trans h0_) (by decide), Q_NE⟩
    refine steps_cons ?_ ?_
    · rintro b a w' ⟨v164, v168, m12_, m13_, ha, Q_BK160, Q_BK161, Q_HB, Q_HO165, Q_HO169, Q_X12_, Q_X13_, Q_NE⟩ hb_ hon hoff
      refine ⟨_, rfl, fun K hK => ?_⟩
      have e14 : a.tmps[14]? = some (.pointer (some ⟨gb160, 0, none⟩)) := by rw [ha]; exact (putSel_off rfl).trans rfl
      replace ha := Aside0.mk ha
      have BK160 := Aside0.mk Q_BK160
      have BK161 := Aside0.mk Q_BK161
      have HB := Aside0.mk Q_HB
      have hc0_ : w'.cell? ⟨gb160, 0, none⟩ = some (.slice A0_0 l0_0.length c0_0) := (blk_cell BK160.out 0).trans rfl
      have hc1_ : w'.cell? ⟨gb160, 1, none⟩ = some (.slice A0_1 l0_1.length c0_1) := (blk_cell BK160.out 1).trans rfl
      have hc2_ : w'.cell? ⟨gb160, 2, none⟩ = some (.slice A0_2 l0_2.length c0_2) := (blk_cell BK160.out 2).trans rfl
      refine value_ (w1 := w') (v := .slice A0_0 l0_0.length c0_0) (by rfl) rfl ?_ ?_
      · go_simp
        (try simp only [i64_w])
        try rfl
      refine hK.out _ _ ⟨v164, v168, m12_, m13_, (by rw [ha.out]; exact putSel_upk 2 hb_ rfl rfl rfl), Q_BK160, Q_BK161, Q_HB, fun h0_ => absurd ((hoff 5 (by kernel_rfl)).symm.trans h0_) (by decide), Q_HO169, fun h0_ => absurd ((hoff 12 (by kernel_rfl)).symm.trans h0_) (by decide), fun h0_ => absurd ((hoff 13 (by kernel_rfl)).symm.trans h0_) (by decide), Q_NE⟩
    refine steps_cons ?_ ?_
    · rintro b a w' ⟨v164, v168, m12_, m13_, ha, Q_BK160, Q_BK161, Q_HB, Q_HO165, Q_HO169, Q_X12_, Q_X13_, Q_NE⟩ hb_ hon hoff
      refine ⟨_, rfl, fun K hK => ?_⟩
      have e15 : a.tmps[15]? = some (.slice A0_0 l0_0.length c0_0) := by rw [ha]; exact putSel_on (e := (3, 15, .slice A0_0 l0_0.length c0_0)) 2 rfl rfl (hon 3 (by kernel_rfl)) rfl
      replace ha := Aside0.mk ha
      have BK160 := Aside0.mk Q_BK160
      have BK161 := Aside0.mk Q_BK161
      have HB := Aside0.mk Q_HB
      refine value_ (w1 := w') (v := .int .i64 (l0_0.length : Int)) (by rfl) rfl ?_ ?_
      · go_simp
        (try simp only [i64_w])
        try rfl
      refine hK.out _ _ ⟨v164, v168, m12_, m13_, (by rw [ha.out]; exact putSel_upk 3 hb_ rfl rfl rfl), Q_BK160, Q_BK161, Q_HB, fun h0_ => absurd ((hoff 5 (by kernel_rfl)).symm.trans h0_) (by decide), Q_HO169, fun h0_ => absurd ((hoff 12 (by kernel_rfl)).symm.trans h0_) (by decide), fun h0_ => absurd ((hoff 13 (by kernel_rfl)).symm.trans h0_) (by decide), Q_NE⟩
    refine steps_cons ?_ ?_
    · rintro b a w' ⟨v164, v168, m12_, m13_, ha, Q_BK160, Q_BK161, Q_HB, Q_HO165, Q_HO169, Q_X12_, Q_X13_, Q_NE⟩ hb_ hon hoff
      refine ⟨_, rfl, fun K hK => ?_⟩
      have e13 : a.tmps[13]? = some (.int .i64 t162) := by rw [ha]; exact putSel_on (e := (1, 13, .int .i64 t162)) 1 rfl rfl (hon 1 (by kernel_rfl)) rfl
      have e16 : a.tmps[16]? = some (.int .i64 (l0_0.length : Int)) := by rw [ha]; exact putSel_on (e := (4, 16, .int .i64 (l0_0.length : Int))) 3 rfl rfl (hon 4 (by kernel_rfl)) rfl
      replace ha := Aside0.mk ha
      have BK160 := Aside0.mk Q_BK160
      have BK161 := Aside0.mk Q_BK161
      have HB := Aside0.mk Q_HB
      refine Kd.R_lit_step (Kd.int .i64) _ 3 ?hg (N := 17) ?hd (xs := ([t162, (l0_0.length : Int)] : List Int)) (inner := [.int .i64 t162, .int .i64 (l0_0.length : Int)]) (ok := fun _ => True) (okp := fun _ => True) ?hr ?hp (fun _ hk => hk) trivial (Below.refl _ _) (Nat.le_refl _) (by simp) ?_; (case hd => rfl); (case hg => rfl); (case hr => first | (go_simp; done) | (go_simp; rfl)); (case hp => exact (Reps.one (show Kd.M (Kd.int .i64) _ _ _ t162 [.int .i64 t162] from rfl) (Reps.one (show Kd.M (Kd.int .i64) _ _ _ (l0_0.length : Int) [.int .i64 (l0_0.length : Int)] from rfl) (Reps.none _ _))))
      intro v164 w13 ho14 hb hg_ hnew_
      clear hg_ hnew_
      (first | rw [← Ny163.out] at ho14 | (simp only [Int.reduceToNat] at ho14; rw [← Ny163.out] at ho14))
      have n0_ := Aside0.mk (Kd.R_lower ho14 (below_size (by repeat (first | (with_reducible first | exact HB.out | apply below_alloc | apply pw_below_drewN | apply below_drew1 | refine below_set ?_ GE160.out | refine below_set ?_ GE161.out) | exact HB.out))))
      have n1_ := Aside0.mk (blk_below (g := gb160) (o := .cells #[.slice A0_0 l0_0.length c0_0, .slice A0_1 l0_1.length c0_1, .slice A0_2 l0_2.length c0_2] 35 (0, 0)) (by (with_reducible repeat (first | refine blk_drewN ?_ _ | refine blk_drew ?_ | refine blk_alloc ?_ _)); exact BK160.out) hb)
      have n2_ := Aside0.mk (blk_below (g := gb161) (o := .cells #[.slice A1_0 l1_0.length c1_0, .slice A1_1 l1_1.length c1_1, .slice A1_2 l1_2.length c1_2] 35 (0, 0)) (by (with_reducible repeat (first | refine blk_drewN ?_ _ | refine blk_drew ?_ | refine blk_alloc ?_ _)); exact BK161.out) hb)
      have n3_ := Aside0.mk (below_step (by repeat (first | (with_reducible first | exact HB.out | apply below_alloc | apply pw_below_drewN | apply below_drew1 | refine below_set ?_ GE160.out | refine below_set ?_ GE161.out) | exact HB.out)) hb)
      have z_HO169 := fun (h0_ : b 11 = true) => (show Kd.R (Kd.int .i64) 3 w13 w.heap.size (fun _ => True) v168 y167 from by first | exact (Kd.R_elder' (by (with_reducible repeat (first | apply Kd.R_alloc | apply Kd.R_drewN | apply Kd.R_drew)); exact (Q_HO169 h0_)) (Kd.R_base ho14) hb) | exact Kd.R_mono (Kd.R_elder' (by (with_reducible repeat (first | apply Kd.R_alloc | apply Kd.R_drewN | apply Kd.R_drew)); exact (Q_HO169 h0_)) (Kd.R_base ho14) hb) (fun _ h_ => by first | trivial | exact h_ | exact h_.1))
      have z_NE := fun (h0_ : b 11 = true) (k_ : Nat) (e_ : (v164 : Value).ownBlock = some k_) (e2_ : (v168 : Value).ownBlock = some k_) => Nat.not_lt.2 (Kd.R_base ho14 k_ e_) (Kd.R_lt (Q_HO169 h0_) k_ e2_)
      clear BK160
      clear BK161
      clear HB
      have HO165 := n0_
      have BK160 := n1_
      have BK161 := n2_
      have HB := n3_
      clear n0_ n1_ n2_ n3_
      clear hb ho14
      refine hK.out _ _ ⟨v164, v168, m12_, m13_, (by rw [ha.out]; exact putSel_upk 4 hb_ rfl rfl rfl), (by (with_reducible repeat (first | refine blk_drewN ?_ _ | refine blk_drew ?_ | refine blk_alloc ?_ _)); exact BK160.out), (by (with_reducible repeat (first | refine blk_drewN ?_ _ | refine blk_drew ?_ | refine blk_alloc ?_ _)); exact BK161.out), (by repeat (first | (with_reducible first | exact HB.out | apply below_alloc | apply pw_below_drewN | apply below_drew1 | refine below_set ?_ GE160.out | refine below_set ?_ GE161.out) | exact HB.out)), fun _ => (by (with_reducible repeat (first | apply Kd.R_alloc | apply Kd.R_drewN | apply Kd.R_drew)); exact HO165.out), z_HO169, fun h0_ => absurd ((hoff 12 (by kernel_rfl)).symm.trans h0_) (by decide), fun h0_ => absurd ((hoff 13 (by kernel_rfl)).symm.trans h0_) (by decide), fun _ h0_ => z_NE h0_⟩
    refine steps_cons ?_ ?_
    · rintro b a w' ⟨v164, v168, m12_, m13_, ha, Q_BK160, Q_BK161, Q_HB, Q_HO165, Q_HO169, Q_X12_, Q_X13_, Q_NE⟩ hb_ hon hoff
      refine ⟨_, rfl, fun K hK => ?_⟩
      have e3 : a.tmps[3]? = some (.pointer (some ⟨gb161, 0, none⟩)) := by rw [ha]; exact (putSel_off rfl).trans rfl
      replace ha := Aside0.mk ha
      have BK160 := Aside0.mk Q_BK160
      have BK161 := Aside0.mk Q_BK161
      have HB := Aside0.mk Q_HB
      have hc0_ : w'.cell? ⟨gb161, 0, none⟩ = some (.slice A1_0 l1_0.length c1_0) := (blk_cell BK161.out 0).trans rfl
      have hc1_ : w'.cell? ⟨gb161, 1, none⟩ = some (.slice A1_1 l1_1.length c1_1) := (blk_cell BK161.out 1).trans rfl
      have hc2_ : w'.cell? ⟨gb161, 2, none⟩ = some (.slice A1_2 l1_2.length c1_2) := (blk_cell BK161.out 2).trans rfl
      refine value_ (w1 := w') (v := .agg #[.slice A1_0 l1_0.length c1_0, .slice A1_1 l1_1.length c1_1, .slice A1_2 l1_2.length c1_2]) (by rfl) rfl ?_ ?_
      · go_simp
        (try simp only [i64_w])
        try rfl
      refine hK.out _ _ ⟨v164, v168, m12_, m13_, (by rw [ha.out]; exact putSel_upk 5 hb_ rfl rfl rfl), Q_BK160, Q_BK161, Q_HB, Q_HO165, fun h0_ => absurd ((hoff 11 (by kernel_rfl)).symm.trans h0_) (by decide), fun h0_ => absurd ((hoff 12 (by kernel_rfl)).symm.trans h0_) (by decide), fun h0_ => absurd ((hoff 13 (by kernel_rfl)).symm.trans h0_) (by decide), Q_NE⟩
    refine steps_cons ?_ ?_
    · rintro b a w' ⟨v164, v168, m12_, m13_, ha, Q_BK160, Q_BK161, Q_HB, Q_HO165, Q_HO169, Q_X12_, Q_X13_, Q_NE⟩ hb_ hon hoff
      refine ⟨_, rfl, fun K hK => ?_⟩
      have e18 : a.tmps[18]? = some (.agg #[.slice A1_0 l1_0.length c1_0, .slice A1_1 l1_1.length c1_1, .slice A1_2 l1_2.length c1_2]) := by rw [ha]; exact putSel_on (e := (6, 18, .agg #[.slice A1_0 l1_0.length c1_0, .slice A1_1 l1_1.length c1_1, .slice A1_2 l1_2.length c1_2])) 5 rfl rfl (hon 6 (by kernel_rfl)) rfl
      replace ha := Aside0.mk ha
      have BK160 := Aside0.mk Q_BK160
      have BK161 := Aside0.mk Q_BK161
      have HB := Aside0.mk Q_HB
      refine goes_ Try.func21 (by kernel_rfl) rfl #[.agg #[.slice A1_0 l1_0.length c1_0, .slice A1_1 l1_1.length c1_1, .slice A1_2 l1_2.length c1_2]] (by rfl) rfl rfl (by first | (simp only [List.map_toArray, List.map_cons, List.map_nil, Act.eval, Array.getD_eq_getD_getElem?, Option.getD_some, e18]; done) | (simp only [List.map_toArray, List.map_cons, List.map_nil, Act.eval, Array.getD_eq_getD_getElem?, Option.getD_some, e18]; rfl)) ?_
      with_reducible refine (backstepref12_Weight.calls k _ _ l1_0 _ _ l1_1 _ _ l1_2 t166 _ ?side1 ?side2 ?side3 ?side4 ?side5 ?side6 A4.out).mono ?_
      (case side1 => repeat (first | exact (Kd.C_below HR1_0.out HB.out) | (with_reducible refine Kd.C_alloc ?_ _) | (with_reducible refine Kd.C_drewN ?_ _) | (with_reducible refine Kd.C_drew ?_)))
      (case side2 => exact HC1_0.out)
      (case side3 => repeat (first | exact (Kd.C_below HR1_1.out HB.out) | (with_reducible refine Kd.C_alloc ?_ _) | (with_reducible refine Kd.C_drewN ?_ _) | (with_reducible refine Kd.C_drew ?_)))
      (case side4 => exact HC1_1.out)
      (case side5 => repeat (first | exact (Kd.C_below HR1_2.out HB.out) | (with_reducible refine Kd.C_alloc ?_ _) | (with_reducible refine Kd.C_drewN ?_ _) | (with_reducible refine Kd.C_drew ?_)))
      (case side6 => exact HC1_2.out)
      rintro e w13 ⟨rfl, hb⟩
      refine ⟨_, rfl, ?_⟩
      have n0_ := Aside0.mk (blk_below (g := gb160) (o := .cells #[.slice A0_0 l0_0.length c0_0, .slice A0_1 l0_1.length c0_1, .slice A0_2 l0_2.length c0_2] 35 (0, 0)) (by (with_reducible repeat (first | refine blk_drewN ?_ _ | refine blk_drew ?_ | refine blk_alloc ?_ _)); exact BK160.out) hb)
      have n1_ := Aside0.mk (blk_below (g := gb161) (o := .cells #[.slice A1_0 l1_0.length c1_0, .slice A1_1 l1_1.length c1_1, .slice A1_2 l1_2.length c1_2] 35 (0, 0)) (by (with_reducible repeat (first | refine blk_drewN ?_ _ | refine blk_drew ?_ | refine blk_alloc ?_ _)); exact BK161.out) hb)
      have n2_ := Aside0.mk (below_step (by repeat (first | (with_reducible first | exact HB.out | apply below_alloc | apply pw_below_drewN | apply below_drew1 | refine below_set ?_ GE160.out | refine below_set ?_ GE161.out) | exact HB.out)) hb)
      have z_HO165 := fun (h0_ : b 5 = true) => (show Kd.R (Kd.int .i64) 3 w13 w.heap.size (fun _ => True) v164 y163 from by first | exact (Kd.R_below (by (with_reducible repeat (first | apply Kd.R_alloc | apply Kd.R_drewN | apply Kd.R_drew)); exact (Q_HO165 h0_)) hb) | exact Kd.R_mono (Kd.R_below (by (with_reducible repeat (first | apply Kd.R_alloc | apply Kd.R_drewN | apply Kd.R_drew)); exact (Q_HO165 h0_)) hb) (fun _ h_ => by first | trivial | exact h_ | exact h_.1))
      clear BK160
      clear BK161
      clear HB
      have BK160 := n0_
      have BK161 := n1_
      have HB := n2_
      clear n0_ n1_ n2_
      (try clear hb)
      (try clear hb2)
      (try clear hk)
      (try clear hi)
      refine hK.out _ _ ⟨v164, v168, m12_, m13_, (by rw [ha.out]; exact putSel_upk 6 hb_ rfl rfl rfl), (by (with_reducible repeat (first | refine blk_drewN ?_ _ | refine blk_drew ?_ | refine blk_alloc ?_ _)); exact BK160.out), (by (with_reducible repeat (first | refine blk_drewN ?_ _ | refine blk_drew ?_ | refine blk_alloc ?_ _)); exact BK161.out), (by repeat (first | (with_reducible first | exact HB.out | apply below_alloc | apply pw_below_drewN | apply below_drew1 | refine below_set ?_ GE160.out | refine below_set ?_ GE161.out) | exact HB.out)), z_HO165, fun h0_ => absurd ((hoff 11 (by kernel_rfl)).symm.trans h0_) (by decide), fun h0_ => absurd ((hoff 12 (by kernel_rfl)).symm.trans h0_) (by decide), fun h0_ => absurd ((hoff 13 (by kernel_rfl)).symm.trans h0_) (by decide), Q_NE⟩
    refine steps_cons ?_ ?_
    · rintro b a w' ⟨v164, v168, m12_, m13_, ha, Q_BK160, Q_BK161, Q_HB, Q_HO165, Q_HO169, Q_X12_, Q_X13_, Q_NE⟩ hb_ hon hoff
      refine ⟨_, rfl, fun K hK => ?_⟩
      have e20 : a.tmps[20]? = some (.pointer (some ⟨gb161, 0, none⟩)) := by rw [ha]; exact (putSel_off rfl).trans rfl
      replace ha := Aside0.mk ha
      have BK160 := Aside0.mk Q_BK160
      have BK161 := Aside0.mk Q_BK161
      have HB := Aside0.mk Q_HB
      have hc0_ : w'.cell? ⟨gb161, 0, none⟩ = some (.slice A1_0 l1_0.length c1_0) := (blk_cell BK161.out 0).trans rfl
      have hc1_ : w'.cell? ⟨gb161, 1, none⟩ = some (.slice A1_1 l1_1.length c1_1) := (blk_cell BK161.out 1).trans rfl
      have hc2_ : w'.cell? ⟨gb161, 2, none⟩ = some (.slice A1_2 l1_2.length c1_2) := (blk_cell BK161.out 2).trans rfl
      refine value_ (w1 := w') (v := .slice A1_0 l1_0.length c1_0) (by rfl) rfl ?_ ?_
      · go_simp
        (try simp only [i64_w])
        try rfl
      refine hK.out _ _ ⟨v164, v168, m12_, m13_, (by rw [ha.out]; exact putSel_upk 7 hb_ rfl rfl rfl), Q_BK160, Q_BK161, Q_HB, Q_HO165, fun h0_ => absurd ((hoff 11 (by kernel_rfl)).symm.trans h0_) (by decide), Q_X12_, fun h0_ => absurd ((hoff 13 (by kernel_rfl)).symm.trans h0_) (by decide), Q_NE⟩
    refine steps_cons ?_ ?_
    · rintro b a w' ⟨v164, v168, m12_, m13_, ha, Q_BK160, Q_BK161, Q_HB, Q_HO165, Q_HO169, Q_X12_, Q_X13_, Q_NE⟩ hb_ hon hoff
      refine ⟨_, rfl, fun K hK => ?_⟩
      have e21 : a.tmps[21]? = some (.slice A1_0 l1_0.length c1_0) := by rw [ha]; exact putSel_on (e := (9, 21, .slice A1_0 l1_0.length c1_0)) 7 rfl rfl (hon 9 (by kernel_rfl)) rfl
      replace ha := Aside0.mk ha
      have BK160 := Aside0.mk Q_BK160
      have BK161 := Aside0.mk Q_BK161
      have HB := Aside0.mk Q_HB
      refine value_ (w1 := w') (v := .int .i64 (l1_0.length : Int)) (by rfl) rfl ?_ ?_
      · go_simp
        (try simp only [i64_w])
        try rfl
      refine hK.out _ _ ⟨v164, v168, m12_, m13_, (by rw [ha.out]; exact putSel_upk 8 hb_ rfl rfl rfl), Q_BK160, Q_BK161, Q_HB, Q_HO165, fun h0_ => absurd ((hoff 11 (by kernel_rfl)).symm.trans h0_) (by decide), Q_X12_, fun h0_ => absurd ((hoff 13 (by kernel_rfl)).symm.trans h0_) (by decide), Q_NE⟩
    refine steps_cons ?_ ?_
    · rintro b a w' ⟨v164, v168, m12_, m13_, ha, Q_BK160, Q_BK161, Q_HB, Q_HO165, Q_HO169, Q_X12_, Q_X13_, Q_NE⟩ hb_ hon hoff
      refine ⟨_, rfl, fun K hK => ?_⟩
      have e19 : a.tmps[19]? = some (.int .i64 t166) := by rw [ha]; exact putSel_on (e := (7, 19, .int .i64 t166)) 6 rfl rfl (hon 7 (by kernel_rfl)) rfl
      have e22 : a.tmps[22]? = some (.int .i64 (l1_0.length : Int)) := by rw [ha]; exact putSel_on (e := (10, 22, .int .i64 (l1_0.length : Int))) 8 rfl rfl (hon 10 (by kernel_rfl)) rfl
      replace ha := Aside0.mk ha
      have BK160 := Aside0.mk Q_BK160
      have BK161 := Aside0.mk Q_BK161
      have HB := Aside0.mk Q_HB
      refine Kd.R_lit_step (Kd.int .i64) _ 3 ?hg (N := 23) ?hd (xs := ([t166, (l1_0.length : Int)] : List Int)) (inner := [.int .i64 t166, .int .i64 (l1_0.length : Int)]) (ok := fun _ => True) (okp := fun _ => True) ?hr ?hp (fun _ hk => hk) trivial (Below.refl _ _) (Nat.le_refl _) (by simp) ?_; (case hd => rfl); (case hg => rfl); (case hr => first | (go_simp; done) | (go_simp; rfl)); (case hp => exact (Reps.one (show Kd.M (Kd.int .i64) _ _ _ t166 [.int .i64 t166] from rfl) (Reps.one (show Kd.M (Kd.int .i64) _ _ _ (l1_0.length : Int) [.int .i64 (l1_0.length : Int)] from rfl) (Reps.none _ _))))
      intro v168 w14 ho15 hb hg_ hnew_
      clear hg_ hnew_
      (first | rw [← Ny167.out] at ho15 | (simp only [Int.reduceToNat] at ho15; rw [← Ny167.out] at ho15))
      have n0_ := Aside0.mk (Kd.R_lower ho15 (below_size (by repeat (first | (with_reducible first | exact HB.out | apply below_alloc | apply pw_below_drewN | apply below_drew1 | refine below_set ?_ GE160.out | refine below_set ?_ GE161.out) | exact HB.out))))
      have n1_ := Aside0.mk (blk_below (g := gb160) (o := .cells #[.slice A0_0 l0_0.length c0_0, .slice A0_1 l0_1.length c0_1, .slice A0_2 l0_2.length c0_2] 35 (0, 0)) (by (with_reducible repeat (first | refine blk_drewN ?_ _ | refine blk_drew ?_ | refine blk_alloc ?_ _)); exact BK160.out) hb)
      have n2_ := Aside0.mk (blk_below (g := gb161) (o := .cells #[.slice A1_0 l1_0.length c1_0, .slice A1_1 l1_1.length c1_1, .slice A1_2 l1_2.length c1_2] 35 (0, 0)) (by (with_reducible repeat (first | refine blk_drewN ?_ _ | refine blk_drew ?_ | refine blk_alloc ?_ _)); exact BK161.out) hb)
      have n3_ := Aside0.mk (below_step (by repeat (first | (with_reducible first | exact HB.out | apply below_alloc | apply pw_below_drewN | apply below_drew1 | refine below_set ?_ GE160.out | refine below_set ?_ GE161.out) | exact HB.out)) hb)
      have z_HO165 := fun (h0_ : b 5 = true) => (show Kd.R (Kd.int .i64) 3 w14 w.heap.size (fun _ => True) v164 y163 from by first | exact (Kd.R_elder' (by (with_reducible repeat (first | apply Kd.R_alloc | apply Kd.R_drewN | apply Kd.R_drew)); exact (Q_HO165 h0_)) (Kd.R_base ho15) hb) | exact Kd.R_mono (Kd.R_elder' (by (with_reducible repeat (first | apply Kd.R_alloc | apply Kd.R_drewN | apply Kd.R_drew)); exact (Q_HO165 h0_)) (Kd.R_base ho15) hb) (fun _ h_ => by first | trivial | exact h_ | exact h_.1))
      have z_NE := fun (h0_ : b 5 = true) (k_ : Nat) (e_ : (v164 : Value).ownBlock = some k_) (e2_ : (v168 : Value).ownBlock = some k_) => Nat.not_lt.2 (Kd.R_base ho15 k_ e2_) (Kd.R_lt (Q_HO165 h0_) k_ e_)
      clear BK160
      clear BK161
      clear HB
      have HO169 := n0_
      have BK160 := n1_
      have BK161 := n2_
      have HB := n3_
      clear n0_ n1_ n2_ n3_
      clear hb ho15
      refine hK.out _ _ ⟨v164, v168, m12_, m13_, (by rw [ha.out]; exact putSel_upk 9 hb_ rfl rfl rfl), (by (with_reducible repeat (first | refine blk_drewN ?_ _ | refine blk_drew ?_ | refine blk_alloc ?_ _)); exact BK160.out), (by (with_reducible repeat (first | refine blk_drewN ?_ _ | refine blk_drew ?_ | refine blk_alloc ?_ _)); exact BK161.out), (by repeat (first | (with_reducible first | exact HB.out | apply below_alloc | apply pw_below_drewN | apply below_drew1 | refine below_set ?_ GE160.out | refine below_set ?_ GE161.out) | exact HB.out)), z_HO165, fun _ => (by (with_reducible repeat (first | apply Kd.R_alloc | apply Kd.R_drewN | apply Kd.R_drew)); exact HO169.out), Q_X12_, fun h0_ => absurd ((hoff 13 (by kernel_rfl)).symm.trans h0_) (by decide), fun h0_ _ => z_NE h0_⟩
    refine steps_cons ?_ ?_
    · rintro b a w' ⟨v164, v168, m12_, m13_, ha, Q_BK160, Q_BK161, Q_HB, Q_HO165, Q_HO169, Q_X12_, Q_X13_, Q_NE⟩ hb_ hon hoff
      refine ⟨_, rfl, fun K hK => ?_⟩
      have e17 : a.tmps[17]? = some (v164) := by rw [ha]; exact putSel_on (e := (5, 17, v164)) 4 rfl rfl (hon 5 (by kernel_rfl)) rfl
      replace ha := Aside0.mk ha
      have BK160 := Aside0.mk Q_BK160
      have BK161 := Aside0.mk Q_BK161
      have HB := Aside0.mk Q_HB
      have HO165 := Aside0.mk (Q_HO165 (hon 5 (by kernel_rfl)))
      refine value_ (w1 := w') (v := v164) (by rfl) rfl ?_ ?_
      · go_simp
        (try simp only [i64_w])
        try rfl
      refine hK.out _ _ ⟨v164, v168, (v164), m13_, (by rw [ha.out]; exact putSel_upk 10 hb_ rfl rfl rfl), Q_BK160, Q_BK161, Q_HB, Q_HO165, Q_HO169, fun _ => rfl, fun h0_ => absurd ((hoff 13 (by kernel_rfl)).symm.trans h0_) (by decide), Q_NE⟩
    refine steps_cons ?_ ?_
    · rintro b a w' ⟨v164, v168, m12_, m13_, ha, Q_BK160, Q_BK161, Q_HB, Q_HO165, Q_HO169, Q_X12_, Q_X13_, Q_NE⟩ hb_ hon hoff
      refine ⟨_, rfl, fun K hK => ?_⟩
      have e23 : a.tmps[23]? = some (v168) := by rw [ha]; exact putSel_on (e := (11, 23, v168)) 9 rfl rfl (hon 11 (by kernel_rfl)) rfl
      replace ha := Aside0.mk ha
      have BK160 := Aside0.mk Q_BK160
      have BK161 := Aside0.mk Q_BK161
      have HB := Aside0.mk Q_HB
      have HO165 := Aside0.mk (Q_HO165 (hon 5 (by kernel_rfl)))
      have HO169 := Aside0.mk (Q_HO169 (hon 11 (by kernel_rfl)))
      refine value_ (w1 := w') (v := v168) (by rfl) rfl ?_ ?_
      · go_simp
        (try simp only [i64_w])
        try rfl
      refine hK.out _ _ ⟨v164, v168, m12_, (v168), (by rw [ha.out]; exact putSel_upk 11 hb_ rfl rfl rfl), Q_BK160, Q_BK161, Q_HB, Q_HO165, Q_HO169, Q_X12_, fun _ => rfl, Q_NE⟩
    exact steps_nil
  rintro b a w17 hall ⟨v164, v168, m12_, m13_, ha, Q_BK160, Q_BK161, Q_HB, Q_HO165, Q_HO169, Q_X12_, Q_X13_, Q_NE⟩
  clear BK160 BK161 HB
  have hb0_ := hall 0 (by kernel_rfl)
  have hb1_ := hall 1 (by kernel_rfl)
  have hb3_ := hall 3 (by kernel_rfl)
  have hb4_ := hall 4 (by kernel_rfl)
  have hb5_ := hall 5 (by kernel_rfl)
  have hb6_ := hall 6 (by kernel_rfl)
  have hb7_ := hall 7 (by kernel_rfl)
  have hb9_ := hall 9 (by kernel_rfl)
  have hb10_ := hall 10 (by kernel_rfl)
  have hb11_ := hall 11 (by kernel_rfl)
  have hb12_ := hall 12 (by kernel_rfl)
  have hb13_ := hall 13 (by kernel_rfl)
  subst ha
  obtain rfl := (Q_X12_ hb12_).symm
  obtain rfl := (Q_X13_ hb13_).symm
  simp only [putSel, hb0_, hb1_, hb3_, hb4_, hb5_, hb6_, hb7_, hb9_, hb10_, hb11_, hb12_, hb13_, if_true, Act.put, List.setIfInBounds_toArray, List.set_cons_zero, List.set_cons_succ]
  have BK160 := Aside0.mk Q_BK160
  clear Q_BK160
  have BK161 := Aside0.mk Q_BK161
  clear Q_BK161
  have HB := Aside0.mk Q_HB
  clear Q_HB
  have HO165 := Aside0.mk (Q_HO165 hb5_)
  clear Q_HO165
  have HO169 := Aside0.mk (Q_HO169 hb11_)
  have QNE := Aside0.mk (Q_NE hb5_ hb11_)
  clear Q_NE
  clear Q_HO169
  clear hall hb0_ hb1_ hb3_ hb4_ hb5_ hb6_ hb7_ hb9_ hb10_ hb11_ hb12_ hb13_
  try go_wp2
  have n0_ := Aside0.mk (Kd.R_drew HO165.out)
  have n1_ := Aside0.mk (Kd.R_drew HO169.out)
  have n2_ := Aside0.mk (blk_drew BK160.out)
  have n3_ := Aside0.mk (blk_drew BK161.out)
  have n4_ := Aside0.mk (below_drew1 HB.out)
  clear HO165
  clear HO169
  clear BK160
  clear BK161
  clear HB
  have HO165 := n0_
  have HO169 := n1_
  have BK160 := n2_
  have BK161 := n3_
  have HB := n4_
  clear n0_ n1_ n2_ n3_ n4_
  refine start_ (n := 6) (S := fun w' => w'.cell? ⟨gb160, 0, none⟩ = some (.slice A0_0 l0_0.length c0_0) ∧ w'.cell? ⟨gb160, 1, none⟩ = some (.slice A0_1 l0_1.length c0_1) ∧ w'.cell? ⟨gb160, 2, none⟩ = some (.slice A0_2 l0_2.length c0_2) ∧ w'.cell? ⟨gb161, 0, none⟩ = some (.slice A1_0 l1_0.length c1_0) ∧ w'.cell? ⟨gb161, 1, none⟩ = some (.slice A1_1 l1_1.length c1_1) ∧ w'.cell? ⟨gb161, 2, none⟩ = some (.slice A1_2 l1_2.length c1_2)) (ds := []) #[false, false, false, false, false, false] (by kernel_rfl) rfl rfl ⟨(blk_cell BK160.out 0).trans rfl, (blk_cell BK160.out 1).trans rfl, (blk_cell BK160.out 2).trans rfl, (blk_cell BK161.out 0).trans rfl, (blk_cell BK161.out 1).trans rfl, (blk_cell BK161.out 2).trans rfl⟩ (fun hHeld => ?_)
  generalize w17.drew = w18 at HO165 HO169 BK160 BK161 HB hHeld ⊢
  refine take_ (i := 0) (N := some 24) (v := ?_) (a' := ?_) #[true, false, false, false, false, false] rfl rfl (by kernel_rfl) (fun _ _ _ h => h) (Or.inl ⟨by rfl, ?_⟩) hHeld ?_ ?_
  rotate_left
  · rintro w' ⟨s0, s1, s2, s3, s4, s5⟩
    go_simp
    with_reducible rfl
  rotate_left
  · simp only [Act.put, List.setIfInBounds_toArray, List.set_cons_zero, List.set_cons_succ, i64_w, i32_w]
    rfl
  refine take_ (i := 2) (N := some 26) (v := ?_) (a' := ?_) #[true, false, true, false, false, false] rfl rfl (by kernel_rfl) (fun _ _ _ h => h) (Or.inl ⟨by rfl, ?_⟩) hHeld ?_ ?_
  rotate_left
  · rintro w' ⟨s0, s1, s2, s3, s4, s5⟩
    go_simp
    with_reducible rfl
  rotate_left
  · simp only [Act.put, List.setIfInBounds_toArray, List.set_cons_zero, List.set_cons_succ, i64_w, i32_w]
    rfl
  refine one_ (i := 1) (N := some 25) #[true, true, true, false, false, false] rfl rfl (by kernel_rfl) (by decide) (fun K hK => ?_)
  refine goes_ Try.func34 (by kernel_rfl) rfl #[.agg #[.slice A0_0 l0_0.length c0_0, .slice A0_1 l0_1.length c0_1, .slice A0_2 l0_2.length c0_2]] (by rfl) rfl rfl (by (try simp only [List.map_toArray, List.map_cons, List.map_nil]); first | done | rfl | (simp only [List.length_drop, List.length_take]; rfl)) ?_
  with_reducible refine (backstepref12_lists.calls k (fun k_ => k_ < w.heap.size) _ _ l0_0 (fun k_ => k_ < w.heap.size) _ _ l0_1 (fun k_ => k_ < w.heap.size) _ _ l0_2 t170 _ ?side1 ?side2 ?side3 A5.out).mono ?_
  (case side1 => exact Kd.V_mk HC0_0.out (Kd.F_below (Kd.C_F (Kd.heap_slice 3 (Kd.heap_int .i64)) HR0_0.out) (by repeat (first | (with_reducible first | exact HB.out | apply below_alloc | apply pw_below_drewN | apply below_drew1 | refine below_set ?_ GE160.out | refine below_set ?_ GE161.out) | exact HB.out))))
  (case side2 => exact Kd.V_mk HC0_1.out (Kd.F_below (Kd.C_F (Kd.heap_int .i64) HR0_1.out) (by repeat (first | (with_reducible first | exact HB.out | apply below_alloc | apply pw_below_drewN | apply below_drew1 | refine below_set ?_ GE160.out | refine below_set ?_ GE161.out) | exact HB.out))))
  (case side3 => exact Kd.V_mk HC0_2.out (Kd.F_below (Kd.C_F (Kd.heap_int .i64) HR0_2.out) (by repeat (first | (with_reducible first | exact HB.out | apply below_alloc | apply pw_below_drewN | apply below_drew1 | refine below_set ?_ GE160.out | refine below_set ?_ GE161.out) | exact HB.out))))
  rintro e w19 ⟨v171, rfl, ho0, hb⟩
  refine ⟨_, rfl, ?_⟩
  have n0_ := Aside0.mk (Kd.R_below (by (with_reducible repeat (first | apply Kd.R_alloc | apply Kd.R_drewN | apply Kd.R_drew)); exact HO165.out) hb)
  have n1_ := Aside0.mk (Kd.R_below (by (with_reducible repeat (first | apply Kd.R_alloc | apply Kd.R_drewN | apply Kd.R_drew)); exact HO169.out) hb)
  have n2_ := Aside0.mk (Kd.N_lower (Kd.N_mono (ok' := fun k_ => some k_ ≠ (v164 : Value).ownBlock ∧ some k_ ≠ (v168 : Value).ownBlock ∧ k_ ≠ gb160 ∧ k_ ≠ gb161) ho0 (fun k_ hk_ => ⟨Or.elim hk_ (fun hs_ => Or.elim hs_ (fun hs_ => fun e_ => Nat.not_le.2 hs_ (Kd.R_base HO165.out k_ e_.symm)) (fun hs_ => Or.elim hs_ (fun hs_ => fun e_ => Nat.not_le.2 hs_ (Kd.R_base HO165.out k_ e_.symm)) (fun hs_ => fun e_ => Nat.not_le.2 hs_ (Kd.R_base HO165.out k_ e_.symm)))) (fun hn_ => (Kd.fresh' (Kd.R_lt (by (with_reducible repeat (first | apply Kd.R_alloc | apply Kd.R_drewN | apply Kd.R_drew)); exact HO165.out)) k_ hn_)), Or.elim hk_ (fun hs_ => Or.elim hs_ (fun hs_ => fun e_ => Nat.not_le.2 hs_ (Kd.R_base HO169.out k_ e_.symm)) (fun hs_ => Or.elim hs_ (fun hs_ => fun e_ => Nat.not_le.2 hs_ (Kd.R_base HO169.out k_ e_.symm)) (fun hs_ => fun e_ => Nat.not_le.2 hs_ (Kd.R_base HO169.out k_ e_.symm)))) (fun hn_ => (Kd.fresh' (Kd.R_lt (by (with_reducible repeat (first | apply Kd.R_alloc | apply Kd.R_drewN | apply Kd.R_drew)); exact HO169.out)) k_ hn_)), Or.elim hk_ (fun hs_ => Or.elim hs_ (fun hs_ => fun e_ => Nat.not_le.2 hs_ (by rw [e_]; exact GW160.out)) (fun hs_ => Or.elim hs_ (fun hs_ => fun e_ => Nat.not_le.2 hs_ (by rw [e_]; exact GW160.out)) (fun hs_ => fun e_ => Nat.not_le.2 hs_ (by rw [e_]; exact GW160.out)))) (fun hn_ => (Kd.freshB (g := gb160) (o := .cells #[.slice A0_0 l0_0.length c0_0, .slice A0_1 l0_1.length c0_1, .slice A0_2 l0_2.length c0_2] 35 (0, 0)) (by (with_reducible repeat (first | refine blk_drewN ?_ _ | refine blk_drew ?_ | refine blk_alloc ?_ _)); exact BK160.out) k_ hn_)), Or.elim hk_ (fun hs_ => Or.elim hs_ (fun hs_ => fun e_ => Nat.not_le.2 hs_ (by rw [e_]; exact GW161.out)) (fun hs_ => Or.elim hs_ (fun hs_ => fun e_ => Nat.not_le.2 hs_ (by rw [e_]; exact GW161.out)) (fun hs_ => fun e_ => Nat.not_le.2 hs_ (by rw [e_]; exact GW161.out)))) (fun hn_ => (Kd.freshB (g := gb161) (o := .cells #[.slice A1_0 l1_0.length c1_0, .slice A1_1 l1_1.length c1_1, .slice A1_2 l1_2.length c1_2] 35 (0, 0)) (by (with_reducible repeat (first | refine blk_drewN ?_ _ | refine blk_drew ?_ | refine blk_alloc ?_ _)); exact BK161.out) k_ hn_))⟩)) (below_size (by repeat (first | (with_reducible first | exact HB.out | apply below_alloc | apply pw_below_drewN | apply below_drew1 | refine below_set ?_ GE160.out | refine below_set ?_ GE161.out) | exact HB.out))))
  have n3_ := Aside0.mk (blk_below (g := gb160) (o := .cells #[.slice A0_0 l0_0.length c0_0, .slice A0_1 l0_1.length c0_1, .slice A0_2 l0_2.length c0_2] 35 (0, 0)) (by (with_reducible repeat (first | refine blk_drewN ?_ _ | refine blk_drew ?_ | refine blk_alloc ?_ _)); exact BK160.out) hb)
  have n4_ := Aside0.mk (blk_below (g := gb161) (o := .cells #[.slice A1_0 l1_0.length c1_0, .slice A1_1 l1_1.length c1_1, .slice A1_2 l1_2.length c1_2] 35 (0, 0)) (by (with_reducible repeat (first | refine blk_drewN ?_ _ | refine blk_drew ?_ | refine blk_alloc ?_ _)); exact BK161.out) hb)
  have n5_ := Aside0.mk (below_step (by repeat (first | (with_reducible first | exact HB.out | apply below_alloc | apply pw_below_drewN | apply below_drew1 | refine below_set ?_ GE160.out | refine below_set ?_ GE161.out) | exact HB.out)) hb)
  clear HO165
  clear HO169
  clear BK160
  clear BK161
  clear HB
  have HO165 := n0_
  have HO169 := n1_
  have HO172 := n2_
  have BK160 := n3_
  have BK161 := n4_
  have HB := n5_
  clear n0_ n1_ n2_ n3_ n4_ n5_
  (try clear hb)
  (try clear hb2)
  (try clear hk)
  (try clear hi)
  (try clear ho0)
  refine hK.out _ _ ⟨(blk_cell BK160.out 0).trans rfl, (blk_cell BK160.out 1).trans rfl, (blk_cell BK160.out 2).trans rfl, (blk_cell BK161.out 0).trans rfl, (blk_cell BK161.out 1).trans rfl, (blk_cell BK161.out 2).trans rfl⟩ (fun hHeld => ?_)
  clear hK K
  refine norm_ (a' := ?_) ?_ ?_
  rotate_left
  · show Act.put _ (some 25) _ = _
    simp only [Act.put, List.setIfInBounds_toArray, List.set_cons_zero, List.set_cons_succ, i64_w, i32_w]
    rfl
  refine one_ (i := 3) (N := some 27) #[true, true, true, true, false, false] rfl rfl (by kernel_rfl) (by decide) (fun K hK => ?_)
  refine goes_ Try.func34 (by kernel_rfl) rfl #[.agg #[.slice A1_0 l1_0.length c1_0, .slice A1_1 l1_1.length c1_1, .slice A1_2 l1_2.length c1_2]] (by rfl) rfl rfl (by (try simp only [List.map_toArray, List.map_cons, List.map_nil]); first | done | rfl | (simp only [List.length_drop, List.length_take]; rfl)) ?_
  with_reducible refine (backstepref12_lists.calls k (fun k_ => k_ < w.heap.size) _ _ l1_0 (fun k_ => k_ < w.heap.size) _ _ l1_1 (fun k_ => k_ < w.heap.size) _ _ l1_2 t173 _ ?side1 ?side2 ?side3 A6.out).mono ?_
  (case side1 => exact Kd.V_mk HC1_0.out (Kd.F_below (Kd.C_F (Kd.heap_slice 3 (Kd.heap_int .i64)) HR1_0.out) (by repeat (first | (with_reducible first | exact HB.out | apply below_alloc | apply pw_below_drewN | apply below_drew1 | refine below_set ?_ GE160.out | refine below_set ?_ GE161.out) | exact HB.out))))
  (case side2 => exact Kd.V_mk HC1_1.out (Kd.F_below (Kd.C_F (Kd.heap_int .i64) HR1_1.out) (by repeat (first | (with_reducible first | exact HB.out | apply below_alloc | apply pw_below_drewN | apply below_drew1 | refine below_set ?_ GE160.out | refine below_set ?_ GE161.out) | exact HB.out))))
  (case side3 => exact Kd.V_mk HC1_2.out (Kd.F_below (Kd.C_F (Kd.heap_int .i64) HR1_2.out) (by repeat (first | (with_reducible first | exact HB.out | apply below_alloc | apply pw_below_drewN | apply below_drew1 | refine below_set ?_ GE160.out | refine below_set ?_ GE161.out) | exact HB.out))))
  rintro e w20 ⟨v174, rfl, ho0, hb⟩
  refine ⟨_, rfl, ?_⟩
  have n0_ := Aside0.mk (Kd.R_below (by (with_reducible repeat (first | apply Kd.R_alloc | apply Kd.R_drewN | apply Kd.R_drew)); exact HO165.out) hb)
  have n1_ := Aside0.mk (Kd.R_below (by (with_reducible repeat (first | apply Kd.R_alloc | apply Kd.R_drewN | apply Kd.R_drew)); exact HO169.out) hb)
  have n2_ := Aside0.mk (Kd.N_elder' (by (with_reducible repeat (first | apply Kd.N_alloc | apply Kd.N_drewN | apply Kd.N_drew)); exact HO172.out) (Kd.N_base ho0) hb)
  have n3_ := Aside0.mk (Kd.N_lower (Kd.N_mono (ok' := fun k_ => some k_ ≠ (v164 : Value).ownBlock ∧ some k_ ≠ (v168 : Value).ownBlock ∧ some k_ ≠ (v171 : Value).ownBlock ∧ k_ ≠ gb160 ∧ k_ ≠ gb161) ho0 (fun k_ hk_ => ⟨Or.elim hk_ (fun hs_ => Or.elim hs_ (fun hs_ => fun e_ => Nat.not_le.2 hs_ (Kd.R_base HO165.out k_ e_.symm)) (fun hs_ => Or.elim hs_ (fun hs_ => fun e_ => Nat.not_le.2 hs_ (Kd.R_base HO165.out k_ e_.symm)) (fun hs_ => fun e_ => Nat.not_le.2 hs_ (Kd.R_base HO165.out k_ e_.symm)))) (fun hn_ => (Kd.fresh' (Kd.R_lt (by (with_reducible repeat (first | apply Kd.R_alloc | apply Kd.R_drewN | apply Kd.R_drew)); exact HO165.out)) k_ hn_)), Or.elim hk_ (fun hs_ => Or.elim hs_ (fun hs_ => fun e_ => Nat.not_le.2 hs_ (Kd.R_base HO169.out k_ e_.symm)) (fun hs_ => Or.elim hs_ (fun hs_ => fun e_ => Nat.not_le.2 hs_ (Kd.R_base HO169.out k_ e_.symm)) (fun hs_ => fun e_ => Nat.not_le.2 hs_ (Kd.R_base HO169.out k_ e_.symm)))) (fun hn_ => (Kd.fresh' (Kd.R_lt (by (with_reducible repeat (first | apply Kd.R_alloc | apply Kd.R_drewN | apply Kd.R_drew)); exact HO169.out)) k_ hn_)), Or.elim hk_ (fun hs_ => Or.elim hs_ (fun hs_ => fun e_ => Nat.not_le.2 hs_ (Kd.N_base HO172.out k_ e_.symm)) (fun hs_ => Or.elim hs_ (fun hs_ => fun e_ => Nat.not_le.2 hs_ (Kd.N_base HO172.out k_ e_.symm)) (fun hs_ => fun e_ => Nat.not_le.2 hs_ (Kd.N_base HO172.out k_ e_.symm)))) (fun hn_ => (Kd.fresh' (Kd.N_lt (by (with_reducible repeat (first | apply Kd.N_alloc | apply Kd.N_drewN | apply Kd.N_drew)); exact HO172.out)) k_ hn_)), Or.elim hk_ (fun hs_ => Or.elim hs_ (fun hs_ => fun e_ => Nat.not_le.2 hs_ (by rw [e_]; exact GW160.out)) (fun hs_ => Or.elim hs_ (fun hs_ => fun e_ => Nat.not_le.2 hs_ (by rw [e_]; exact GW160.out)) (fun hs_ => fun e_ => Nat.not_le.2 hs_ (by rw [e_]; exact GW160.out)))) (fun hn_ => (Kd.freshB (g := gb160) (o := .cells #[.slice A0_0 l0_0.length c0_0, .slice A0_1 l0_1.length c0_1, .slice A0_2 l0_2.length c0_2] 35 (0, 0)) (by (with_reducible repeat (first | refine blk_drewN ?_ _ | refine blk_drew ?_ | refine blk_alloc ?_ _)); exact BK160.out) k_ hn_)), Or.elim hk_ (fun hs_ => Or.elim hs_ (fun hs_ => fun e_ => Nat.not_le.2 hs_ (by rw [e_]; exact GW161.out)) (fun hs_ => Or.elim hs_ (fun hs_ => fun e_ => Nat.not_le.2 hs_ (by rw [e_]; exact GW161.out)) (fun hs_ => fun e_ => Nat.not_le.2 hs_ (by rw [e_]; exact GW161.out)))) (fun hn_ => (Kd.freshB (g := gb161) (o := .cells #[.slice A1_0 l1_0.length c1_0, .slice A1_1 l1_1.length c1_1, .slice A1_2 l1_2.length c1_2] 35 (0, 0)) (by (with_reducible repeat (first | refine blk_drewN ?_ _ | refine blk_drew ?_ | refine blk_alloc ?_ _)); exact BK161.out) k_ hn_))⟩)) (below_size (by repeat (first | (with_reducible first | exact HB.out | apply below_alloc | apply pw_below_drewN | apply below_drew1 | refine below_set ?_ GE160.out | refine below_set ?_ GE161.out) | exact HB.out))))
  have n4_ := Aside0.mk (blk_below (g := gb160) (o := .cells #[.slice A0_0 l0_0.length c0_0, .slice A0_1 l0_1.length c0_1, .slice A0_2 l0_2.length c0_2] 35 (0, 0)) (by (with_reducible repeat (first | refine blk_drewN ?_ _ | refine blk_drew ?_ | refine blk_alloc ?_ _)); exact BK160.out) hb)
  have n5_ := Aside0.mk (blk_below (g := gb161) (o := .cells #[.slice A1_0 l1_0.length c1_0, .slice A1_1 l1_1.length c1_1, .slice A1_2 l1_2.length c1_2] 35 (0, 0)) (by (with_reducible repeat (first | refine blk_drewN ?_ _ | refine blk_drew ?_ | refine blk_alloc ?_ _)); exact BK161.out) hb)
  have n6_ := Aside0.mk (below_step (by repeat (first | (with_reducible first | exact HB.out | apply below_alloc | apply pw_below_drewN | apply below_drew1 | refine below_set ?_ GE160.out | refine below_set ?_ GE161.out) | exact HB.out)) hb)
  clear HO165
  clear HO169
  clear HO172
  clear BK160
  clear BK161
  clear HB
  have HO165 := n0_
  have HO169 := n1_
  have HO172 := n2_
  have HO175 := n3_
  have BK160 := n4_
  have BK161 := n5_
  have HB := n6_
  clear n0_ n1_ n2_ n3_ n4_ n5_ n6_
  (try clear hb)
  (try clear hb2)
  (try clear hk)
  (try clear hi)
  (try clear ho0)
  refine hK.out _ _ ⟨(blk_cell BK160.out 0).trans rfl, (blk_cell BK160.out 1).trans rfl, (blk_cell BK160.out 2).trans rfl, (blk_cell BK161.out 0).trans rfl, (blk_cell BK161.out 1).trans rfl, (blk_cell BK161.out 2).trans rfl⟩ (fun hHeld => ?_)
  clear hK K
  refine norm_ (a' := ?_) ?_ ?_
  rotate_left
  · show Act.put _ (some 27) _ = _
    simp only [Act.put, List.setIfInBounds_toArray, List.set_cons_zero, List.set_cons_succ, i64_w, i32_w]
    rfl
  refine pure_ (i := 4) (N := some 7) (v := ?_) (a' := ?_) #[true, true, true, true, true, false] rfl rfl (by kernel_rfl) (fun _ _ _ h => h) (Or.inl ⟨by rfl, ?_⟩) ?_ ?_
  rotate_left
  · intro w'
    go_simp
    with_reducible rfl
  rotate_left
  · simp only [Act.put, List.setIfInBounds_toArray, List.set_cons_zero, List.set_cons_succ, i64_w, i32_w]
    rfl
  refine pure_ (i := 5) (N := some 8) (v := ?_) (a' := ?_) #[true, true, true, true, true, true] rfl rfl (by kernel_rfl) (fun _ _ _ h => h) (Or.inl ⟨by rfl, ?_⟩) ?_ ?_
  rotate_left
  · intro w'
    go_simp
    with_reducible rfl
  rotate_left
  · simp only [Act.put, List.setIfInBounds_toArray, List.set_cons_zero, List.set_cons_succ, i64_w, i32_w]
    rfl
  refine done_ (by kernel_rfl) ?_
  go_upto_block 0 with (fail)
  go_cut [5, 6] (fun v5 v6 wc => ∃ (kq : Nat) (x5_6 : List Int) (x6_6 : List Int), Aside0 (backstepref12_Compare.j4 kq x5_6 x6_6 = some r) ∧ Aside0 (kq ≤ k) ∧ Aside0 (Kd.R (Kd.int .i64) 3 wc w.heap.size (fun k_ => some k_ ≠ (v6 : Value).ownBlock) v5 x5_6) ∧ Aside0 (Kd.R (Kd.int .i64) 3 wc w.heap.size (fun k_ => some k_ ≠ (v5 : Value).ownBlock) v6 x6_6) ∧ Aside0 (wc.heap[gb160]? = some (.cells #[(.slice A0_0 l0_0.length c0_0), (.slice A0_1 l0_1.length c0_1), (.slice A0_2 l0_2.length c0_2)] 35 (0, 0))) ∧ Aside0 (wc.heap[gb161]? = some (.cells #[(.slice A1_0 l1_0.length c1_0), (.slice A1_1 l1_1.length c1_1), (.slice A1_2 l1_2.length c1_2)] 35 (0, 0))) ∧ Aside0 (Below w.heap.size w wc))
  case first =>
    have H := HC7.out
    clear HC7
    have H' := Aside0.mk H
    clear H
    go_wp2
    go_loopg [5, 6, 9] k (fun kq v5 v6 v9 w' => ∃ (x5_1 : List Int) (x6_1 : List Int) (x9_1 : Int), v9 = .int .i64 x9_1 ∧ Aside0 (backstepref12_Compare.l0 kq x5_1 x6_1 t170 t173 x9_1 = some r) ∧ Aside0 (kq ≤ k) ∧ Aside0 (Kd.R (Kd.int .i64) 3 w' w.heap.size (fun k_ => some k_ ≠ (v6 : Value).ownBlock) v5 x5_1) ∧ Aside0 (Kd.R (Kd.int .i64) 3 w' w.heap.size (fun k_ => some k_ ≠ (v5 : Value).ownBlock) v6 x6_1) ∧ Aside0 (Kd.N (Kd.slice 3 (Kd.int .i64)) 33 w' w.heap.size (fun k_ => some k_ ≠ (v5 : Value).ownBlock ∧ some k_ ≠ (v6 : Value).ownBlock ∧ some k_ ≠ (v174 : Value).ownBlock ∧ k_ ≠ gb160 ∧ k_ ≠ gb161) v171 t170) ∧ Aside0 (Kd.N (Kd.slice 3 (Kd.int .i64)) 33 w' w.heap.size (fun k_ => some k_ ≠ (v5 : Value).ownBlock ∧ some k_ ≠ (v6 : Value).ownBlock ∧ some k_ ≠ (v171 : Value).ownBlock ∧ k_ ≠ gb160 ∧ k_ ≠ gb161) v174 t173) ∧ Aside0 (w'.heap[gb160]? = some (.cells #[(.slice A0_0 l0_0.length c0_0), (.slice A0_1 l0_1.length c0_1), (.slice A0_2 l0_2.length c0_2)] 35 (0, 0))) ∧ Aside0 (w'.heap[gb161]? = some (.cells #[(.slice A1_0 l1_0.length c1_0), (.slice A1_1 l1_1.length c1_1), (.slice A1_2 l1_2.length c1_2)] 35 (0, 0))) ∧ Aside0 (Below w.heap.size w w'))
    case atStart => exact ⟨(y163), (y167), (0), (by first | rfl | (simp; done) | (simp [*]; done)), H', ⟨Nat.le_refl _⟩, ⟨by (with_reducible repeat (first | apply Kd.R_alloc | apply Kd.R_drewN | apply Kd.R_drew)); exact (Kd.R_reok rfl HO165.out (fun k_ e_ e2_ => QNE.out k_ e_ e2_.symm))⟩, ⟨by (with_reducible repeat (first | apply Kd.R_alloc | apply Kd.R_drewN | apply Kd.R_drew)); exact (Kd.R_reok rfl HO169.out (fun k_ e_ e2_ => QNE.out k_ e2_.symm e_))⟩, ⟨by (with_reducible repeat (first | apply Kd.N_alloc | apply Kd.N_drewN | apply Kd.N_drew)); exact Kd.N_mono HO172.out (fun _ hk => ⟨hk.1.1, ⟨hk.1.2.1, ⟨hk.2, ⟨hk.1.2.2.1, hk.1.2.2.2⟩⟩⟩⟩)⟩, ⟨by (with_reducible repeat (first | apply Kd.N_alloc | apply Kd.N_drewN | apply Kd.N_drew)); exact HO175.out⟩, ⟨by (with_reducible repeat (first | refine blk_drewN ?_ _ | refine blk_drew ?_ | refine blk_alloc ?_ _)); exact BK160.out⟩, ⟨by (with_reducible repeat (first | refine blk_drewN ?_ _ | refine blk_drew ?_ | refine blk_alloc ?_ _)); exact BK161.out⟩, ⟨by repeat (first | (with_reducible first | exact HB.out | apply below_alloc | apply pw_below_drewN | apply below_drew1 | refine below_set ?_ GE160.out | refine below_set ?_ GE161.out) | exact HB.out)⟩⟩
    case round =>
      clear H'
      try clear c1
      try clear c2
      try clear p2
      try clear c3
      try clear c15
      obtain ⟨x5_1, x6_1, x9_1, rfl, HA, HK1, HO_5, HO_6, HO_7, HO_8, BK160, BK161, HB⟩ := hrel
      cases gk with
      | zero => exact absurd HA.out (by simp [backstepref12_Compare.l0])
      | succ k1 =>
        have H := HA.out
        clear HA
        simp only [backstepref12_Compare.l0] at H
        have HC21 := Aside0.mk H
        clear H
        go_upto_region 4 with (fail)
        go_cut [37] (fun v37 wc => ∃ (kq : Nat) (x37_20 : Bool), v37 = .bool x37_20 ∧ Aside0 (backstepref12_Compare.j1 kq x5_1 x6_1 t170 t173 x9_1 x37_20 = some r) ∧ Aside0 (kq ≤ k1) ∧ Aside0 (Kd.R (Kd.int .i64) 3 wc w.heap.size (fun k_ => some k_ ≠ (u6 : Value).ownBlock) u5 x5_1) ∧ Aside0 (Kd.R (Kd.int .i64) 3 wc w.heap.size (fun k_ => some k_ ≠ (u5 : Value).ownBlock) u6 x6_1) ∧ Aside0 (Kd.N (Kd.slice 3 (Kd.int .i64)) 33 wc w.heap.size (fun k_ => some k_ ≠ (u5 : Value).ownBlock ∧ some k_ ≠ (u6 : Value).ownBlock ∧ some k_ ≠ (v174 : Value).ownBlock ∧ k_ ≠ gb160 ∧ k_ ≠ gb161) v171 t170) ∧ Aside0 (Kd.N (Kd.slice 3 (Kd.int .i64)) 33 wc w.heap.size (fun k_ => some k_ ≠ (u5 : Value).ownBlock ∧ some k_ ≠ (u6 : Value).ownBlock ∧ some k_ ≠ (v171 : Value).ownBlock ∧ k_ ≠ gb160 ∧ k_ ≠ gb161) v174 t173) ∧ Aside0 (wc.heap[gb160]? = some (.cells #[(.slice A0_0 l0_0.length c0_0), (.slice A0_1 l0_1.length c0_1), (.slice A0_2 l0_2.length c0_2)] 35 (0, 0))) ∧ Aside0 (wc.heap[gb161]? = some (.cells #[(.slice A1_0 l1_0.length c1_0), (.slice A1_1 l1_1.length c1_1), (.slice A1_2 l1_2.length c1_2)] 35 (0, 0))) ∧ Aside0 (Below w.heap.size w wc))
        case first =>
          have H := HC21.out
          clear HC21
          by_cases c22 : x9_1 < (t170.length : Int)
          · rw [if_pos c22] at H
            have c22b0 : decide (x9_1 < (t170.length : Int)) = true := decide_eq_true c22
            clear c22
            (first | rw [c22b0] | (simp only [i64_w, i32_w]; rw [c22b0]) | skip)
            have H' := Aside0.mk H
            clear H
            obtain ⟨Ao23, co23, eo23⟩ := Kd.N_slice HO_7.out
            subst eo23
            obtain ⟨Ao24, co24, eo24⟩ := Kd.N_slice HO_8.out
            subst eo24
            go_wp2
            go_meet
            case rel => exact ⟨_, (decide (x9_1 < (t173.length : Int))), (by first | rfl | (simp; done) | (simp [*]; done)), H', ⟨by have := HK1.out; first | omega | exact Nat.le_refl _⟩, ⟨by (with_reducible repeat (first | apply Kd.R_alloc | apply Kd.R_drewN | apply Kd.R_drew)); exact HO_5.out⟩, ⟨by (with_reducible repeat (first | apply Kd.R_alloc | apply Kd.R_drewN | apply Kd.R_drew)); exact HO_6.out⟩, ⟨by (with_reducible repeat (first | apply Kd.N_alloc | apply Kd.N_drewN | apply Kd.N_drew)); exact HO_7.out⟩, ⟨by (with_reducible repeat (first | apply Kd.N_alloc | apply Kd.N_drewN | apply Kd.N_drew)); exact HO_8.out⟩, ⟨by (with_reducible repeat (first | refine blk_drewN ?_ _ | refine blk_drew ?_ | refine blk_alloc ?_ _)); exact BK160.out⟩, ⟨by (with_reducible repeat (first | refine blk_drewN ?_ _ | refine blk_drew ?_ | refine blk_alloc ?_ _)); exact BK161.out⟩, ⟨by repeat (first | (with_reducible first | exact HB.out | apply below_alloc | apply pw_below_drewN | apply below_drew1 | refine below_set ?_ GE160.out | refine below_set ?_ GE161.out) | exact HB.out)⟩⟩
          · rw [if_neg c22] at H
            have c22b0 : decide (x9_1 < (t170.length : Int)) = false := decide_eq_false c22
            clear c22
            (first | rw [c22b0] | (simp only [i64_w, i32_w]; rw [c22b0]) | skip)
            have H' := Aside0.mk H
            clear H
            obtain ⟨Ao25, co25, eo25⟩ := Kd.N_slice HO_7.out
            subst eo25
            go_wp2
            go_meet
            case rel => exact ⟨_, (false), (by first | rfl | (simp; done) | (simp [*]; done)), H', ⟨by have := HK1.out; first | omega | exact Nat.le_refl _⟩, ⟨by (with_reducible repeat (first | apply Kd.R_alloc | apply Kd.R_drewN | apply Kd.R_drew)); exact HO_5.out⟩, ⟨by (with_reducible repeat (first | apply Kd.R_alloc | apply Kd.R_drewN | apply Kd.R_drew)); exact HO_6.out⟩, ⟨by (with_reducible repeat (first | apply Kd.N_alloc | apply Kd.N_drewN | apply Kd.N_drew)); exact HO_7.out⟩, ⟨by (with_reducible repeat (first | apply Kd.N_alloc | apply Kd.N_drewN | apply Kd.N_drew)); exact HO_8.out⟩, ⟨by (with_reducible repeat (first | refine blk_drewN ?_ _ | refine blk_drew ?_ | refine blk_alloc ?_ _)); exact BK160.out⟩, ⟨by (with_reducible repeat (first | refine blk_drewN ?_ _ | refine blk_drew ?_ | refine blk_alloc ?_ _)); exact BK161.out⟩, ⟨by repeat (first | (with_reducible first | exact HB.out | apply below_alloc | apply pw_below_drewN | apply below_drew1 | refine below_set ?_ GE160.out | refine below_set ?_ GE161.out) | exact HB.out)⟩⟩
        case rest =>
          clear HC21
          try clear c1
          try clear c2
          try clear p2
          try clear c3
          try clear c15
          try clear c21
          try clear c22
          try clear c22b0
          try clear p2
          obtain ⟨kq, x37_20, rfl, HA, HJ20, HO_5, HO_6, HO_7, HO_8, BK160, BK161, HB⟩ := hcut
          cases kq with
          | zero => exact absurd HA.out (by simp [backstepref12_Compare.j1])
          | succ kj20 =>
            have H := HA.out
            clear HA
            simp only [backstepref12_Compare.j1] at H
            by_cases c26 : x37_20 = true
            · subst c26
              have H1 : (if 0 ≤ x9_1 then (if x9_1 < (t170.length : Int) then (if x5_1.length < 17592186044416 then (if x9_1 < (t173.length : Int) then (if x6_1.length < 17592186044416 then (backstepref12_Compare.l1 kj20 (x5_1 ++ [((rd_L4 t170 x9_1).length : Int)]) (x6_1 ++ [((rd_L4 t173 x9_1).length : Int)]) t170 t173 x9_1 0) else (none)) else (none)) else (none)) else (none)) else (none)) = some r := by rw [if_pos rfl] at H; exact H
              clear H
              have H := H1
              clear H1
              by_cases c27 : 0 ≤ x9_1
              · rw [if_pos c27] at H
                have c27b0 : decide (0 ≤ x9_1) = true := decide_eq_true c27
                clear c27
                by_cases c28 : x9_1 < (t170.length : Int)
                · rw [if_pos c28] at H
                  have c28b0 : decide (x9_1 < (t170.length : Int)) = true := decide_eq_true c28
                  clear c28
                  by_cases c29 : x5_1.length < 17592186044416
                  · rw [if_pos c29] at H
                    have LMc29 := Aside0.mk c29
                    clear c29
                    obtain ⟨y177, hy177⟩ : ∃ y_ : List Int, y_ = (x5_1 ++ [((rd_L4 t170 x9_1).length : Int)]) := ⟨_, rfl⟩
                    replace H : (if x9_1 < (t173.length : Int) then (if x6_1.length < 17592186044416 then (backstepref12_Compare.l1 kj20 y177 (x6_1 ++ [((rd_L4 t173 x9_1).length : Int)]) t170 t173 x9_1 0) else (none)) else (none)) = some r := by first | (rw [hy177]; with_reducible exact H) | (have H2_ := (Option.bind_some _ _).symm.trans H; rw [hy177]; with_reducible exact H2_) | (have H2_ := (Option.bind_some _ _).symm.trans H; with_reducible exact H2_) | with_reducible exact H | (rw [hy177]; exact H) | exact H
                    have Ny177 := Aside0.mk hy177
                    clear hy177
                    by_cases c30 : x9_1 < (t173.length : Int)
                    · rw [if_pos c30] at H
                      have c30b0 : decide (x9_1 < (t173.length : Int)) = true := decide_eq_true c30
                      clear c30
                      by_cases c31 : x6_1.length < 17592186044416
                      · rw [if_pos c31] at H
                        have LMc31 := Aside0.mk c31
                        clear c31
                        obtain ⟨y181, hy181⟩ : ∃ y_ : List Int, y_ = (x6_1 ++ [((rd_L4 t173 x9_1).length : Int)]) := ⟨_, rfl⟩
                        replace H : (backstepref12_Compare.l1 kj20 y177 y181 t170 t173 x9_1 0) = some r := by first | (rw [hy181]; with_reducible exact H) | (have H2_ := (Option.bind_some _ _).symm.trans H; rw [hy181]; with_reducible exact H2_) | (have H2_ := (Option.bind_some _ _).symm.trans H; with_reducible exact H2_) | with_reducible exact H | (rw [hy181]; exact H) | exact H
                        have Ny181 := Aside0.mk hy181
                        clear hy181
                        have H' := Aside0.mk H
                        clear H
                        obtain ⟨Ao32, co32, eo32⟩ := Kd.N_slice HO_7.out
                        subst eo32
                        have p176 : 0 ≤ (x9_1 : Int) := of_decide_eq_true (by first | (with_reducible assumption) | assumption)
                        have q176 : x9_1 < (t170.length : Int) := of_decide_eq_true (by first | (with_reducible assumption) | assumption)
                        obtain ⟨ad176, A176_0, c176_0, e176, hx176_0, hl176_0, hi176_0⟩ := at_L4 (Kd.N_reads' HO_7.out).2.2 x9_1 p176 q176
                        cases e176
                        obtain ⟨ce176, hce176, hMe176, hcc176⟩ := Kd.N_get HO_7.out [] x9_1 p176 (by first | exact q176 | exact of_decide_eq_true (by first | (with_reducible assumption) | assumption) | (have e_ := (Kd.N_reads' HO_7.out).1; omega))
                        obtain ⟨ua176_0, uc176_0, rfl, ul176_0, ge176_0⟩ := Kd.FK_slice_open hMe176
                        have hv176_0 := hcc176 0 _ rfl
                        rw [Nat.add_zero, show ((Kd.slice 3 (Kd.int .i64))).sz = 1 from rfl, Nat.mul_one] at hv176_0
                        replace hv176_0 := Option.some.inj (hv176_0.symm.trans hx176_0)
                        injection hv176_0 with hva_ hvn_ hvc_
                        rw [hva_] at ge176_0
                        rw [hvc_] at ul176_0
                        have HL176_0 := Aside0.mk (show Kd.V (Kd.int .i64) 3 _ w.heap.size _ _ (rd_L4 t170 x9_1) from Kd.V_mk ul176_0 ge176_0)
                        clear hva_ hvn_ hvc_ ge176_0 ul176_0
                        clear hcc176 hce176
                        have HR176_0 := Aside0.mk hi176_0
                        have HC176_0 := Aside0.mk hl176_0
                        clear hi176_0 hl176_0
                        replace p176 := eq_true p176
                        replace q176 := eq_true q176
                        go_wp2_with (first | ((with_reducible refine gate_builtin (b := .append) (xs := #[.tmp 40, .tmp 46]) rfl ?_); (try (refine gate_guard (by rfl) ?_; dsimp only)); at_builtin; refine Kd.R_append (Kd.int .i64) (w0 := w) w.heap.size rfl (.tmp 40) (.tmp 46) 33 3 (.int .i64 0) 8 rfl Try.underlying33 info3 rfl (by decide) (by omega) u5 x5_1 ((rd_L4 t170 x9_1).length : Int) [.int .i64 ((rd_L4 t170 x9_1).length : Int)] (fun k_ => some k_ ≠ (u6 : Value).ownBlock) (fun _ => False) rfl rfl ?aP (fun _ hk => hk.elim) ?aF ?aO ?aB ?aS ?aL ?_; (case aP => exact rfl); (case aB => exact (by repeat (first | (with_reducible first | exact HB.out | apply below_alloc | apply pw_below_drewN | apply below_drew1 | refine below_set ?_ GE160.out | refine below_set ?_ GE161.out) | exact HB.out))); (case aF => exact (fun k_ hk => Kd.fresh' (Kd.R_lt (by (with_reducible repeat (first | apply Kd.R_alloc | apply Kd.R_drewN | apply Kd.R_drew)); exact HO_6.out)) k_ hk)); (case aO => exact (by (with_reducible repeat (first | apply Kd.R_alloc | apply Kd.R_drewN | apply Kd.R_drew)); exact HO_5.out)); (case aS => exact (below_size (by repeat (first | (with_reducible first | exact HB.out | apply below_alloc | apply pw_below_drewN | apply below_drew1 | refine below_set ?_ GE160.out | refine below_set ?_ GE161.out) | exact HB.out)))); (case aL => have := LMc29.out; omega); intro v178 w33 ho hb hg hat; rw [← Ny177.out] at ho; have n0_ := Aside0.mk (Kd.R_after (ok := (fun _ => True)) (by (with_reducible repeat (first | apply Kd.R_alloc | apply Kd.R_drewN | apply Kd.R_drew)); exact Kd.R_mono HO_6.out (fun _ hk => ⟨trivial, hk⟩)) hg hat); have n1_ := Aside0.mk (Kd.N_afterv (ok := (fun k_ => some k_ ≠ (u6 : Value).ownBlock ∧ some k_ ≠ (v174 : Value).ownBlock ∧ k_ ≠ gb160 ∧ k_ ≠ gb161)) (by (with_reducible repeat (first | apply Kd.N_alloc | apply Kd.N_drewN | apply Kd.N_drew)); exact Kd.N_mono HO_7.out (fun _ hk => ⟨⟨hk.2.1, ⟨hk.2.2.1, ⟨hk.2.2.2.1, hk.2.2.2.2⟩⟩⟩, hk.1⟩)) hg hat); have n2_ := Aside0.mk (Kd.N_afterv (ok := (fun k_ => some k_ ≠ (u6 : Value).ownBlock ∧ some k_ ≠ (.slice (some ad176) t170.length co32 : Value).ownBlock ∧ k_ ≠ gb160 ∧ k_ ≠ gb161)) (by (with_reducible repeat (first | apply Kd.N_alloc | apply Kd.N_drewN | apply Kd.N_drew)); exact Kd.N_mono HO_8.out (fun _ hk => ⟨⟨hk.2.1, ⟨hk.2.2.1, ⟨hk.2.2.2.1, hk.2.2.2.2⟩⟩⟩, hk.1⟩)) hg hat); have n3_ := Aside0.mk (blk_grown (g := gb160) (o := .cells #[.slice A0_0 l0_0.length c0_0, .slice A0_1 l0_1.length c0_1, .slice A0_2 l0_2.length c0_2] 35 (0, 0)) (by (with_reducible repeat (first | refine blk_drewN ?_ _ | refine blk_drew ?_ | refine blk_alloc ?_ _)); exact BK160.out) hg (Kd.R_ne HO_5.out BK160.out (by decide))); have n4_ := Aside0.mk (blk_grown (g := gb161) (o := .cells #[.slice A1_0 l1_0.length c1_0, .slice A1_1 l1_1.length c1_1, .slice A1_2 l1_2.length c1_2] 35 (0, 0)) (by (with_reducible repeat (first | refine blk_drewN ?_ _ | refine blk_drew ?_ | refine blk_alloc ?_ _)); exact BK161.out) hg (Kd.R_ne HO_5.out BK161.out (by decide))); have n5_ := Aside0.mk (Kd.V_afterv (ok := (fun k_ => some k_ ≠ (u6 : Value).ownBlock ∧ some k_ ≠ (.slice (some ad176) t170.length co32 : Value).ownBlock ∧ some k_ ≠ (v174 : Value).ownBlock ∧ k_ ≠ gb160 ∧ k_ ≠ gb161)) (by (with_reducible repeat (first | apply Kd.V_alloc | apply Kd.V_drewN | apply Kd.V_drew)); exact Kd.V_mono HL176_0.out (fun _ hk => ⟨⟨hk.1.2.1, ⟨hk.2, ⟨hk.1.2.2.1, ⟨hk.1.2.2.2.1, hk.1.2.2.2.2⟩⟩⟩⟩, hk.1.1⟩)) hg hat); have n6_ := Aside0.mk (hb); have n7_ := Aside0.mk (ho); clear HO_6; clear HO_7; clear HO_8; clear BK160; clear BK161; clear HL176_0; clear HB; clear HO_5; have HO_6 := n0_; have HO_7 := n1_; have HO_8 := n2_; have BK160 := n3_; have BK161 := n4_; have HL176_0 := n5_; have HB := n6_; have HO179 := n7_; clear n0_ n1_ n2_ n3_ n4_ n5_ n6_ n7_; clear ho hb hg hat; obtain ⟨Ao34, co34, eo34⟩ := Kd.N_slice HO_8.out; subst eo34; have p180 : 0 ≤ (x9_1 : Int) := of_decide_eq_true (by first | (with_reducible assumption) | assumption); have q180 : x9_1 < (t173.length : Int) := of_decide_eq_true (by first | (with_reducible assumption) | assumption); obtain ⟨ad180, A180_0, c180_0, e180, hx180_0, hl180_0, hi180_0⟩ := at_L4 (Kd.N_reads' HO_8.out).2.2 x9_1 p180 q180; cases e180; obtain ⟨ce180, hce180, hMe180, hcc180⟩ := Kd.N_get HO_8.out [] x9_1 p180 (by first | exact q180 | exact of_decide_eq_true (by first | (with_reducible assumption) | assumption) | (have e_ := (Kd.N_reads' HO_8.out).1; omega)); obtain ⟨ua180_0, uc180_0, rfl, ul180_0, ge180_0⟩ := Kd.FK_slice_open hMe180; have hv180_0 := hcc180 0 _ rfl; rw [Nat.add_zero, show ((Kd.slice 3 (Kd.int .i64))).sz = 1 from rfl, Nat.mul_one] at hv180_0; replace hv180_0 := Option.some.inj (hv180_0.symm.trans hx180_0); injection hv180_0 with hva_ hvn_ hvc_; rw [hva_] at ge180_0; rw [hvc_] at ul180_0; have HL180_0 := Aside0.mk (show Kd.V (Kd.int .i64) 3 _ w.heap.size _ _ (rd_L4 t173 x9_1) from Kd.V_mk ul180_0 ge180_0); clear hva_ hvn_ hvc_ ge180_0 ul180_0; clear hcc180 hce180; have HR180_0 := Aside0.mk hi180_0; have HC180_0 := Aside0.mk hl180_0; clear hi180_0 hl180_0; replace p180 := eq_true p180; replace q180 := eq_true q180) | ((with_reducible refine gate_builtin (b := .append) (xs := #[.tmp 48, .tmp 54]) rfl ?_); (try (refine gate_guard (by rfl) ?_; dsimp only)); at_builtin; refine Kd.R_append (Kd.int .i64) (w0 := w) w.heap.size rfl (.tmp 48) (.tmp 54) 33 3 (.int .i64 0) 8 rfl Try.underlying33 info3 rfl (by decide) (by omega) u6 x6_1 ((rd_L4 t173 x9_1).length : Int) [.int .i64 ((rd_L4 t173 x9_1).length : Int)] (fun k_ => some k_ ≠ (v178 : Value).ownBlock) (fun _ => False) rfl rfl ?aP (fun _ hk => hk.elim) ?aF ?aO ?aB ?aS ?aL ?_; (case aP => exact rfl); (case aB => exact (by repeat (first | (with_reducible first | exact HB.out | apply below_alloc | apply pw_below_drewN | apply below_drew1 | refine below_set ?_ GE160.out | refine below_set ?_ GE161.out) | exact HB.out))); (case aF => exact (fun k_ hk => Kd.fresh' (Kd.R_lt (by (with_reducible repeat (first | apply Kd.R_alloc | apply Kd.R_drewN | apply Kd.R_drew)); exact HO179.out)) k_ hk)); (case aO => exact (by (with_reducible repeat (first | apply Kd.R_alloc | apply Kd.R_drewN | apply Kd.R_drew)); exact Kd.R_mono HO_6.out (fun _ hk => hk.2))); (case aS => exact (below_size (by repeat (first | (with_reducible first | exact HB.out | apply below_alloc | apply pw_below_drewN | apply below_drew1 | refine below_set ?_ GE160.out | refine below_set ?_ GE161.out) | exact HB.out)))); (case aL => have := LMc31.out; omega); intro v182 w35 ho hb hg hat; rw [← Ny181.out] at ho; have n0_ := Aside0.mk (Kd.N_afterv (ok := (fun k_ => some k_ ≠ (.slice (some ad180) t173.length co34 : Value).ownBlock ∧ some k_ ≠ (v178 : Value).ownBlock ∧ k_ ≠ gb160 ∧ k_ ≠ gb161)) (by (with_reducible repeat (first | apply Kd.N_alloc | apply Kd.N_drewN | apply Kd.N_drew)); exact Kd.N_mono HO_7.out (fun _ hk => ⟨⟨hk.1.2.1, ⟨hk.2, ⟨hk.1.2.2.1, hk.1.2.2.2⟩⟩⟩, hk.1.1⟩)) hg hat); have n1_ := Aside0.mk (Kd.N_afterv (ok := (fun k_ => some k_ ≠ (.slice (some ad176) t170.length co32 : Value).ownBlock ∧ some k_ ≠ (v178 : Value).ownBlock ∧ k_ ≠ gb160 ∧ k_ ≠ gb161)) (by (with_reducible repeat (first | apply Kd.N_alloc | apply Kd.N_drewN | apply Kd.N_drew)); exact Kd.N_mono HO_8.out (fun _ hk => ⟨⟨hk.1.2.1, ⟨hk.2, ⟨hk.1.2.2.1, hk.1.2.2.2⟩⟩⟩, hk.1.1⟩)) hg hat); have n2_ := Aside0.mk (blk_grown (g := gb160) (o := .cells #[.slice A0_0 l0_0.length c0_0, .slice A0_1 l0_1.length c0_1, .slice A0_2 l0_2.length c0_2] 35 (0, 0)) (by (with_reducible repeat (first | refine blk_drewN ?_ _ | refine blk_drew ?_ | refine blk_alloc ?_ _)); exact BK160.out) hg (Kd.R_ne HO_6.out BK160.out (by decide))); have n3_ := Aside0.mk (blk_grown (g := gb161) (o := .cells #[.slice A1_0 l1_0.length c1_0, .slice A1_1 l1_1.length c1_1, .slice A1_2 l1_2.length c1_2] 35 (0, 0)) (by (with_reducible repeat (first | refine blk_drewN ?_ _ | refine blk_drew ?_ | refine blk_alloc ?_ _)); exact BK161.out) hg (Kd.R_ne HO_6.out BK161.out (by decide))); have n4_ := Aside0.mk (Kd.V_afterv (ok := (fun k_ => some k_ ≠ (.slice (some ad176) t170.length co32 : Value).ownBlock ∧ some k_ ≠ (.slice (some ad180) t173.length co34 : Value).ownBlock ∧ some k_ ≠ (v178 : Value).ownBlock ∧ k_ ≠ gb160 ∧ k_ ≠ gb161)) (by (with_reducible repeat (first | apply Kd.V_alloc | apply Kd.V_drewN | apply Kd.V_drew)); exact Kd.V_mono HL176_0.out (fun _ hk => ⟨⟨hk.1.2.1, ⟨hk.1.2.2.1, ⟨hk.2, ⟨hk.1.2.2.2.1, hk.1.2.2.2.2⟩⟩⟩⟩, hk.1.1⟩)) hg hat); have n5_ := Aside0.mk (Kd.R_after (ok := (fun _ => True)) (by (with_reducible repeat (first | apply Kd.R_alloc | apply Kd.R_drewN | apply Kd.R_drew)); exact Kd.R_mono HO179.out (fun _ hk => ⟨trivial, hk⟩)) hg hat); have n6_ := Aside0.mk (Kd.V_afterv (ok := (fun k_ => some k_ ≠ (.slice (some ad176) t170.length co32 : Value).ownBlock ∧ some k_ ≠ (.slice (some ad180) t173.length co34 : Value).ownBlock ∧ some k_ ≠ (v178 : Value).ownBlock ∧ k_ ≠ gb160 ∧ k_ ≠ gb161)) (by (with_reducible repeat (first | apply Kd.V_alloc | apply Kd.V_drewN | apply Kd.V_drew)); exact Kd.V_mono HL180_0.out (fun _ hk => ⟨⟨hk.1.1.2.1, ⟨hk.2, ⟨hk.1.2, ⟨hk.1.1.2.2.1, hk.1.1.2.2.2⟩⟩⟩⟩, hk.1.1.1⟩)) hg hat); have n7_ := Aside0.mk (hb); have n8_ := Aside0.mk (ho); clear HO_7; clear HO_8; clear BK160; clear BK161; clear HL176_0; clear HO179; clear HL180_0; clear HB; clear HO_6; have HO_7 := n0_; have HO_8 := n1_; have BK160 := n2_; have BK161 := n3_; have HL176_0 := n4_; have HO179 := n5_; have HL180_0 := n6_; have HB := n7_; have HO183 := n8_; clear n0_ n1_ n2_ n3_ n4_ n5_ n6_ n7_ n8_; clear ho hb hg hat))
                        go_loopg [5, 6, 10] kj20 (fun kq v5 v6 v10 w' => ∃ (x5_3 : List Int) (x6_3 : List Int) (x10_3 : Int), v10 = .int .i64 x10_3 ∧ Aside0 (backstepref12_Compare.l1 kq x5_3 x6_3 t170 t173 x9_1 x10_3 = some r) ∧ Aside0 (kq ≤ kj20) ∧ Aside0 (Kd.R (Kd.int .i64) 3 w' w.heap.size (fun k_ => some k_ ≠ (v6 : Value).ownBlock) v5 x5_3) ∧ Aside0 (Kd.R (Kd.int .i64) 3 w' w.heap.size (fun k_ => some k_ ≠ (v5 : Value).ownBlock) v6 x6_3) ∧ Aside0 (Kd.N (Kd.slice 3 (Kd.int .i64)) 33 w' w.heap.size (fun k_ => some k_ ≠ (v5 : Value).ownBlock ∧ some k_ ≠ (v6 : Value).ownBlock ∧ some k_ ≠ ((.slice (some ad180) t173.length co34) : Value).ownBlock ∧ k_ ≠ gb160 ∧ k_ ≠ gb161) (.slice (some ad176) t170.length co32) t170) ∧ Aside0 (Kd.N (Kd.slice 3 (Kd.int .i64)) 33 w' w.heap.size (fun k_ => some k_ ≠ (v5 : Value).ownBlock ∧ some k_ ≠ (v6 : Value).ownBlock ∧ some k_ ≠ ((.slice (some ad176) t170.length co32) : Value).ownBlock ∧ k_ ≠ gb160 ∧ k_ ≠ gb161) (.slice (some ad180) t173.length co34) t173) ∧ Aside0 (w'.heap[gb160]? = some (.cells #[(.slice A0_0 l0_0.length c0_0), (.slice A0_1 l0_1.length c0_1), (.slice A0_2 l0_2.length c0_2)] 35 (0, 0))) ∧ Aside0 (w'.heap[gb161]? = some (.cells #[(.slice A1_0 l1_0.length c1_0), (.slice A1_1 l1_1.length c1_1), (.slice A1_2 l1_2.length c1_2)] 35 (0, 0))) ∧ Aside0 (Below w.heap.size w w'))
                        case atStart => exact ⟨(y177), (y181), (0), (by first | rfl | (simp; done) | (simp [*]; done)), H', ⟨Nat.le_refl _⟩, ⟨by (with_reducible repeat (first | apply Kd.R_alloc | apply Kd.R_drewN | apply Kd.R_drew)); exact Kd.R_mono HO179.out (fun _ hk => hk.2)⟩, ⟨by (with_reducible repeat (first | apply Kd.R_alloc | apply Kd.R_drewN | apply Kd.R_drew)); exact HO183.out⟩, ⟨by (with_reducible repeat (first | apply Kd.N_alloc | apply Kd.N_drewN | apply Kd.N_drew)); exact Kd.N_mono HO_7.out (fun _ hk => ⟨hk.1.2.1, ⟨hk.2, ⟨hk.1.1, ⟨hk.1.2.2.1, hk.1.2.2.2⟩⟩⟩⟩)⟩, ⟨by (with_reducible repeat (first | apply Kd.N_alloc | apply Kd.N_drewN | apply Kd.N_drew)); exact Kd.N_mono HO_8.out (fun _ hk => ⟨hk.1.2.1, ⟨hk.2, ⟨hk.1.1, ⟨hk.1.2.2.1, hk.1.2.2.2⟩⟩⟩⟩)⟩, ⟨by (with_reducible repeat (first | refine blk_drewN ?_ _ | refine blk_drew ?_ | refine blk_alloc ?_ _)); exact BK160.out⟩, ⟨by (with_reducible repeat (first | refine blk_drewN ?_ _ | refine blk_drew ?_ | refine blk_alloc ?_ _)); exact BK161.out⟩, ⟨by repeat (first | (with_reducible first | exact HB.out | apply below_alloc | apply pw_below_drewN | apply below_drew1 | refine below_set ?_ GE160.out | refine below_set ?_ GE161.out) | exact HB.out)⟩⟩
                        case round =>
                          clear H'
                          try clear c1
                          try clear p1
                          try clear q1
                          try clear hx1
                          try clear c2
                          try clear p2
                          try clear c3
                          try clear c15
                          try clear c17
                          try clear p17
                          try clear q17
                          try clear hx17
                          try clear c18
                          try clear p18
                          try clear q18
                          try clear hx18
                          try clear c21
                          try clear c22
                          try clear c22b0
                          try clear c26
                          try clear c27
                          try clear c27b0
                          try clear c28
                          try clear c28b0
                          try clear c29
                          try clear c30
                          try clear c30b0
                          try clear c31
                          try clear c34
                          try clear hx176_0
                          try clear hx180_0
                          try clear p176
                          try clear p180
                          try clear p2
                          try clear q176
                          try clear q180
                          obtain ⟨x5_3, x6_3, x10_3, rfl, HA, HK3, HO_5, HO_6, HO_7, HO_8, BK160, BK161, HB⟩ := hrel
                          cases gk with
                          | zero => exact absurd HA.out (by simp [backstepref12_Compare.l1])
                          | succ k3 =>
                            have H := HA.out
                            clear HA
                            simp only [backstepref12_Compare.l1] at H
                            have HC36 := Aside0.mk H
                            clear H
                            go_upto_region 9 with (fail)
                            go_cut [71] (fun v71 wc => ∃ (kq : Nat) (x71_35 : Bool), v71 = .bool x71_35 ∧ Aside0 (backstepref12_Compare.j3 kq x5_3 x6_3 t170 t173 x9_1 x10_3 x71_35 = some r) ∧ Aside0 (kq ≤ k3) ∧ Aside0 (Kd.R (Kd.int .i64) 3 wc w.heap.size (fun k_ => some k_ ≠ (u6 : Value).ownBlock) u5 x5_3) ∧ Aside0 (Kd.R (Kd.int .i64) 3 wc w.heap.size (fun k_ => some k_ ≠ (u5 : Value).ownBlock) u6 x6_3) ∧ Aside0 (Kd.N (Kd.slice 3 (Kd.int .i64)) 33 wc w.heap.size (fun k_ => some k_ ≠ (u5 : Value).ownBlock ∧ some k_ ≠ (u6 : Value).ownBlock ∧ some k_ ≠ ((.slice (some ad180) t173.length co34) : Value).ownBlock ∧ k_ ≠ gb160 ∧ k_ ≠ gb161) (.slice (some ad176) t170.length co32) t170) ∧ Aside0 (Kd.N (Kd.slice 3 (Kd.int .i64)) 33 wc w.heap.size (fun k_ => some k_ ≠ (u5 : Value).ownBlock ∧ some k_ ≠ (u6 : Value).ownBlock ∧ some k_ ≠ ((.slice (some ad176) t170.length co32) : Value).ownBlock ∧ k_ ≠ gb160 ∧ k_ ≠ gb161) (.slice (some ad180) t173.length co34) t173) ∧ Aside0 (wc.heap[gb160]? = some (.cells #[(.slice A0_0 l0_0.length c0_0), (.slice A0_1 l0_1.length c0_1), (.slice A0_2 l0_2.length c0_2)] 35 (0, 0))) ∧ Aside0 (wc.heap[gb161]? = some (.cells #[(.slice A1_0 l1_0.length c1_0), (.slice A1_1 l1_1.length c1_1), (.slice A1_2 l1_2.length c1_2)] 35 (0, 0))) ∧ Aside0 (Below w.heap.size w wc))
                            case first =>
                              have H := HC36.out
                              clear HC36
                              by_cases c37 : 0 ≤ x9_1
                              · rw [if_pos c37] at H
                                have c37b0 : decide (0 ≤ x9_1) = true := decide_eq_true c37
                                clear c37
                                (first | rw [c37b0] | (simp only [i64_w, i32_w]; rw [c37b0]) | skip)
                                by_cases c38 : x9_1 < (t170.length : Int)
                                · rw [if_pos c38] at H
                                  have c38b0 : decide (x9_1 < (t170.length : Int)) = true := decide_eq_true c38
                                  clear c38
                                  by_cases c39 : x10_3 < ((rd_L4 t170 x9_1).length : Int)
                                  · rw [if_pos c39] at H
                                    have c39b0 : decide (x10_3 < ((rd_L4 t170 x9_1).length : Int)) = true := decide_eq_true c39
                                    clear c39
                                    by_cases c40 : x9_1 < (t173.length : Int)
                                    · rw [if_pos c40] at H
                                      have c40b0 : decide (x9_1 < (t173.length : Int)) = true := decide_eq_true c40
                                      clear c40
                                      have H' := Aside0.mk H
                                      clear H
                                      have p184 : 0 ≤ (x9_1 : Int) := of_decide_eq_true (by first | (with_reducible assumption) | assumption)
                                      have q184 : x9_1 < (t170.length : Int) := of_decide_eq_true (by first | (with_reducible assumption) | assumption)
                                      obtain ⟨ad184, A184_0, c184_0, e184, hx184_0, hl184_0, hi184_0⟩ := at_L4 (Kd.N_reads' HO_7.out).2.2 x9_1 p184 q184
                                      obtain rfl : ad176 = ad184 := (by injection e184)
                                      obtain ⟨ce184, hce184, hMe184, hcc184⟩ := Kd.N_get HO_7.out [] x9_1 p184 (by first | exact q184 | exact of_decide_eq_true (by first | (with_reducible assumption) | assumption) | (have e_ := (Kd.N_reads' HO_7.out).1; omega))
                                      obtain ⟨ua184_0, uc184_0, rfl, ul184_0, ge184_0⟩ := Kd.FK_slice_open hMe184
                                      have hv184_0 := hcc184 0 _ rfl
                                      rw [Nat.add_zero, show ((Kd.slice 3 (Kd.int .i64))).sz = 1 from rfl, Nat.mul_one] at hv184_0
                                      replace hv184_0 := Option.some.inj (hv184_0.symm.trans hx184_0)
                                      injection hv184_0 with hva_ hvn_ hvc_
                                      rw [hva_] at ge184_0
                                      rw [hvc_] at ul184_0
                                      have HL184_0 := Aside0.mk (show Kd.V (Kd.int .i64) 3 _ w.heap.size _ _ (rd_L4 t170 x9_1) from Kd.V_mk ul184_0 ge184_0)
                                      clear hva_ hvn_ hvc_ ge184_0 ul184_0
                                      clear hcc184 hce184
                                      have HR184_0 := Aside0.mk hi184_0
                                      have HC184_0 := Aside0.mk hl184_0
                                      clear hi184_0 hl184_0
                                      replace p184 := eq_true p184
                                      replace q184 := eq_true q184
                                      have p185 : 0 ≤ (x9_1 : Int) := of_decide_eq_true (by first | (with_reducible assumption) | assumption)
                                      have q185 : x9_1 < (t173.length : Int) := of_decide_eq_true (by first | (with_reducible assumption) | assumption)
                                      obtain ⟨ad185, A185_0, c185_0, e185, hx185_0, hl185_0, hi185_0⟩ := at_L4 (Kd.N_reads' HO_8.out).2.2 x9_1 p185 q185
                                      obtain rfl : ad180 = ad185 := (by injection e185)
                                      obtain ⟨ce185, hce185, hMe185, hcc185⟩ := Kd.N_get HO_8.out [] x9_1 p185 (by first | exact q185 | exact of_decide_eq_true (by first | (with_reducible assumption) | assumption) | (have e_ := (Kd.N_reads' HO_8.out).1; omega))
                                      obtain ⟨ua185_0, uc185_0, rfl, ul185_0, ge185_0⟩ := Kd.FK_slice_open hMe185
                                      have hv185_0 := hcc185 0 _ rfl
                                      rw [Nat.add_zero, show ((Kd.slice 3 (Kd.int .i64))).sz = 1 from rfl, Nat.mul_one] at hv185_0
                                      replace hv185_0 := Option.some.inj (hv185_0.symm.trans hx185_0)
                                      injection hv185_0 with hva_ hvn_ hvc_
                                      rw [hva_] at ge185_0
                                      rw [hvc_] at ul185_0
                                      have HL185_0 := Aside0.mk (show Kd.V (Kd.int .i64) 3 _ w.heap.size _ _ (rd_L4 t173 x9_1) from Kd.V_mk ul185_0 ge185_0)
                                      clear hva_ hvn_ hvc_ ge185_0 ul185_0
                                      clear hcc185 hce185
                                      have HR185_0 := Aside0.mk hi185_0
                                      have HC185_0 := Aside0.mk hl185_0
                                      clear hi185_0 hl185_0
                                      replace p185 := eq_true p185
                                      replace q185 := eq_true q185
                                      go_wp2
                                      go_meet
                                      case rel => exact ⟨_, (decide (x10_3 < ((rd_L4 t173 x9_1).length : Int))), (by first | rfl | (simp; done) | (simp [*]; done)), H', ⟨by have := HK1.out; have := HJ20.out; have := HK3.out; first | omega | exact Nat.le_refl _⟩, ⟨by (with_reducible repeat (first | apply Kd.R_alloc | apply Kd.R_drewN | apply Kd.R_drew)); exact HO_5.out⟩, ⟨by (with_reducible repeat (first | apply Kd.R_alloc | apply Kd.R_drewN | apply Kd.R_drew)); exact HO_6.out⟩, ⟨by (with_reducible repeat (first | apply Kd.N_alloc | apply Kd.N_drewN | apply Kd.N_drew)); exact HO_7.out⟩, ⟨by (with_reducible repeat (first | apply Kd.N_alloc | apply Kd.N_drewN | apply Kd.N_drew)); exact HO_8.out⟩, ⟨by (with_reducible repeat (first | refine blk_drewN ?_ _ | refine blk_drew ?_ | refine blk_alloc ?_ _)); exact BK160.out⟩, ⟨by (with_reducible repeat (first | refine blk_drewN ?_ _ | refine blk_drew ?_ | refine blk_alloc ?_ _)); exact BK161.out⟩, ⟨by repeat (first | (with_reducible first | exact HB.out | apply below_alloc | apply pw_below_drewN | apply below_drew1 | refine below_set ?_ GE160.out | refine below_set ?_ GE161.out) | exact HB.out)⟩⟩
                                    · rw [if_neg c40] at H
                                      exact absurd H (by simp)
                                  · rw [if_neg c39] at H
                                    have c39b0 : decide (x10_3 < ((rd_L4 t170 x9_1).length : Int)) = false := decide_eq_false c39
                                    clear c39
                                    have H' := Aside0.mk H
                                    clear H
                                    have p184 : 0 ≤ (x9_1 : Int) := of_decide_eq_true (by first | (with_reducible assumption) | assumption)
                                    have q184 : x9_1 < (t170.length : Int) := of_decide_eq_true (by first | (with_reducible assumption) | assumption)
                                    obtain ⟨ad184, A184_0, c184_0, e184, hx184_0, hl184_0, hi184_0⟩ := at_L4 (Kd.N_reads' HO_7.out).2.2 x9_1 p184 q184
                                    obtain rfl : ad176 = ad184 := (by injection e184)
                                    obtain ⟨ce184, hce184, hMe184, hcc184⟩ := Kd.N_get HO_7.out [] x9_1 p184 (by first | exact q184 | exact of_decide_eq_true (by first | (with_reducible assumption) | assumption) | (have e_ := (Kd.N_reads' HO_7.out).1; omega))
                                    obtain ⟨ua184_0, uc184_0, rfl, ul184_0, ge184_0⟩ := Kd.FK_slice_open hMe184
                                    have hv184_0 := hcc184 0 _ rfl
                                    rw [Nat.add_zero, show ((Kd.slice 3 (Kd.int .i64))).sz = 1 from rfl, Nat.mul_one] at hv184_0
                                    replace hv184_0 := Option.some.inj (hv184_0.symm.trans hx184_0)
                                    injection hv184_0 with hva_ hvn_ hvc_
                                    rw [hva_] at ge184_0
                                    rw [hvc_] at ul184_0
                                    have HL184_0 := Aside0.mk (show Kd.V (Kd.int .i64) 3 _ w.heap.size _ _ (rd_L4 t170 x9_1) from Kd.V_mk ul184_0 ge184_0)
                                    clear hva_ hvn_ hvc_ ge184_0 ul184_0
                                    clear hcc184 hce184
                                    have HR184_0 := Aside0.mk hi184_0
                                    have HC184_0 := Aside0.mk hl184_0
                                    clear hi184_0 hl184_0
                                    replace p184 := eq_true p184
                                    replace q184 := eq_true q184
                                    go_wp2
                                    go_meet
                                    case rel => exact ⟨_, (false), (by first | rfl | (simp; done) | (simp [*]; done)), H', ⟨by have := HK1.out; have := HJ20.out; have := HK3.out; first | omega | exact Nat.le_refl _⟩, ⟨by (with_reducible repeat (first | apply Kd.R_alloc | apply Kd.R_drewN | apply Kd.R_drew)); exact HO_5.out⟩, ⟨by (with_reducible repeat (first | apply Kd.R_alloc | apply Kd.R_drewN | apply Kd.R_drew)); exact HO_6.out⟩, ⟨by (with_reducible repeat (first | apply Kd.N_alloc | apply Kd.N_drewN | apply Kd.N_drew)); exact HO_7.out⟩, ⟨by (with_reducible repeat (first | apply Kd.N_alloc | apply Kd.N_drewN | apply Kd.N_drew)); exact HO_8.out⟩, ⟨by (with_reducible repeat (first | refine blk_drewN ?_ _ | refine blk_drew ?_ | refine blk_alloc ?_ _)); exact BK160.out⟩, ⟨by (with_reducible repeat (first | refine blk_drewN ?_ _ | refine blk_drew ?_ | refine blk_alloc ?_ _)); exact BK161.out⟩, ⟨by repeat (first | (with_reducible first | exact HB.out | apply below_alloc | apply pw_below_drewN | apply below_drew1 | refine below_set ?_ GE160.out | refine below_set ?_ GE161.out) | exact HB.out)⟩⟩
                                · rw [if_neg c38] at H
                                  exact absurd H (by simp)
                              · rw [if_neg c37] at H
                                exact absurd H (by simp)
                            case rest =>
                              clear HC36
                              try clear c1
                              try clear p1
                              try clear q1
                              try clear hx1
                              try clear c2
                              try clear p2
                              try clear c3
                              try clear c4
                              try clear c15
                              try clear c17
                              try clear p17
                              try clear q17
                              try clear hx17
                              try clear c18
                              try clear p18
                              try clear q18
                              try clear hx18
                              try clear c21
                              try clear c22
                              try clear c22b0
                              try clear c26
                              try clear c27
                              try clear c27b0
                              try clear c28
                              try clear c28b0
                              try clear c29
                              try clear c30
                              try clear c30b0
                              try clear c31
                              try clear c34
                              try clear c37
                              try clear c37b0
                              try clear c38
                              try clear c38b0
                              try clear c39
                              try clear c39b0
                              try clear c40
                              try clear c40b0
                              try clear hx176_0
                              try clear hx180_0
                              try clear hx184_0
                              try clear hx185_0
                              try clear p1
                              try clear p17
                              try clear p176
                              try clear p18
                              try clear p180
                              try clear p184
                              try clear p185
                              try clear p2
                              try clear q1
                              try clear q17
                              try clear q176
                              try clear q18
                              try clear q180
                              try clear q184
                              try clear q185
                              obtain ⟨kq, x71_35, rfl, HA, HJ35, HO_5, HO_6, HO_7, HO_8, BK160, BK161, HB⟩ := hcut
                              cases kq with
                              | zero => exact absurd HA.out (by simp [backstepref12_Compare.j3])
                              | succ kj35 =>
                                have H := HA.out
                                clear HA
                                simp only [backstepref12_Compare.j3] at H
                                by_cases c41 : x71_35 = true
                                · subst c41
                                  have H1 : (if 0 ≤ x9_1 then (if x9_1 < (t170.length : Int) then (if 0 ≤ x10_3 then (if x10_3 < ((rd_L4 t170 x9_1).length : Int) then ((backstepref12_Rank.f (rd (rd_L4 t170 x9_1) x10_3)).bind fun t188 => (if x5_3.length < 17592186044416 then (if x9_1 < (t173.length : Int) then (if x10_3 < ((rd_L4 t173 x9_1).length : Int) then ((backstepref12_Rank.f (rd (rd_L4 t173 x9_1) x10_3)).bind fun t194 => (if x6_3.length < 17592186044416 then (backstepref12_Compare.l1 kj35 (x5_3 ++ [t188]) (x6_3 ++ [t194]) t170 t173 x9_1 (wrap64 (x10_3 + 1))) else (none))) else (none)) else (none)) else (none))) else (none)) else (none)) else (none)) else (none)) = some r := by rw [if_pos rfl] at H; exact H
                                  clear H
                                  have H := H1
                                  clear H1
                                  by_cases c42 : 0 ≤ x9_1
                                  · rw [if_pos c42] at H
                                    have c42b0 : decide (0 ≤ x9_1) = true := decide_eq_true c42
                                    clear c42
                                    by_cases c43 : x9_1 < (t170.length : Int)
                                    · rw [if_pos c43] at H
                                      have c43b0 : decide (x9_1 < (t170.length : Int)) = true := decide_eq_true c43
                                      clear c43
                                      by_cases c44 : 0 ≤ x10_3
                                      · rw [if_pos c44] at H
                                        have c44b0 : decide (0 ≤ x10_3) = true := decide_eq_true c44
                                        clear c44
                                        by_cases c45 : x10_3 < ((rd_L4 t170 x9_1).length : Int)
                                        · rw [if_pos c45] at H
                                          have c45b0 : decide (x10_3 < ((rd_L4 t170 x9_1).length : Int)) = true := decide_eq_true c45
                                          clear c45
                                          replace H := Option.bind_eq_some_iff.mp H
                                          obtain ⟨t188, A460, H⟩ := H
                                          replace H : (if x5_3.length < 17592186044416 then (if x9_1 < (t173.length : Int) then (if x10_3 < ((rd_L4 t173 x9_1).length : Int) then ((backstepref12_Rank.f (rd (rd_L4 t173 x9_1) x10_3)).bind fun t194 => (if x6_3.length < 17592186044416 then (backstepref12_Compare.l1 kj35 (x5_3 ++ [t188]) (x6_3 ++ [t194]) t170 t173 x9_1 (wrap64 (x10_3 + 1))) else (none))) else (none)) else (none)) else (none)) = some r := H
                                          have A46 := Aside0.mk A460
                                          clear A460
                                          by_cases c47 : x5_3.length < 17592186044416
                                          · rw [if_pos c47] at H
                                            have LMc47 := Aside0.mk c47
                                            clear c47
                                            obtain ⟨y189, hy189⟩ : ∃ y_ : List Int, y_ = (x5_3 ++ [t188]) := ⟨_, rfl⟩
                                            replace H : (if x9_1 < (t173.length : Int) then (if x10_3 < ((rd_L4 t173 x9_1).length : Int) then ((backstepref12_Rank.f (rd (rd_L4 t173 x9_1) x10_3)).bind fun t194 => (if x6_3.length < 17592186044416 then (backstepref12_Compare.l1 kj35 y189 (x6_3 ++ [t194]) t170 t173 x9_1 (wrap64 (x10_3 + 1))) else (none))) else (none)) else (none)) = some r := by first | (rw [hy189]; with_reducible exact H) | (have H2_ := (Option.bind_some _ _).symm.trans H; rw [hy189]; with_reducible exact H2_) | (have H2_ := (Option.bind_some _ _).symm.trans H; with_reducible exact H2_) | with_reducible exact H | (rw [hy189]; exact H) | exact H
                                            have Ny189 := Aside0.mk hy189
                                            clear hy189
                                            by_cases c48 : x9_1 < (t173.length : Int)
                                            · rw [if_pos c48] at H
                                              have c48b0 : decide (x9_1 < (t173.length : Int)) = true := decide_eq_true c48
                                              clear c48
                                              by_cases c49 : x10_3 < ((rd_L4 t173 x9_1).length : Int)
                                              · rw [if_pos c49] at H
                                                have c49b0 : decide (x10_3 < ((rd_L4 t173 x9_1).length : Int)) = true := decide_eq_true c49
                                                clear c49
                                                replace H := Option.bind_eq_some_iff.mp H
                                                obtain ⟨t194, A500, H⟩ := H
                                                replace H : (if x6_3.length < 17592186044416 then (backstepref12_Compare.l1 kj35 y189 (x6_3 ++ [t194]) t170 t173 x9_1 (wrap64 (x10_3 + 1))) else (none)) = some r := H
                                                have A50 := Aside0.mk A500
                                                clear A500
                                                by_cases c51 : x6_3.length < 17592186044416
                                                · rw [if_pos c51] at H
                                                  have LMc51 := Aside0.mk c51
                                                  clear c51
                                                  obtain ⟨y195, hy195⟩ : ∃ y_ : List Int, y_ = (x6_3 ++ [t194]) := ⟨_, rfl⟩
                                                  replace H : (backstepref12_Compare.l1 kj35 y189 y195 t170 t173 x9_1 (wrap64 (x10_3 + 1))) = some r := by first | (rw [hy195]; with_reducible exact H) | (have H2_ := (Option.bind_some _ _).symm.trans H; rw [hy195]; with_reducible exact H2_) | (have H2_ := (Option.bind_some _ _).symm.trans H; with_reducible exact H2_) | with_reducible exact H | (rw [hy195]; exact H) | exact H
                                                  have Ny195 := Aside0.mk hy195
                                                  clear hy195
                                                  have H' := Aside0.mk H
                                                  clear H
                                                  have p186 : 0 ≤ (x9_1 : Int) := of_decide_eq_true (by first | (with_reducible assumption) | assumption)
                                                  have q186 : x9_1 < (t170.length : Int) := of_decide_eq_true (by first | (with_reducible assumption) | assumption)
                                                  obtain ⟨ad186, A186_0, c186_0, e186, hx186_0, hl186_0, hi186_0⟩ := at_L4 (Kd.N_reads' HO_7.out).2.2 x9_1 p186 q186
                                                  obtain rfl : ad176 = ad186 := (by injection e186)
                                                  obtain ⟨ce186, hce186, hMe186, hcc186⟩ := Kd.N_get HO_7.out [] x9_1 p186 (by first | exact q186 | exact of_decide_eq_true (by first | (with_reducible assumption) | assumption) | (have e_ := (Kd.N_reads' HO_7.out).1; omega))
                                                  obtain ⟨ua186_0, uc186_0, rfl, ul186_0, ge186_0⟩ := Kd.FK_slice_open hMe186
                                                  have hv186_0 := hcc186 0 _ rfl
                                                  rw [Nat.add_zero, show ((Kd.slice 3 (Kd.int .i64))).sz = 1 from rfl, Nat.mul_one] at hv186_0
                                                  replace hv186_0 := Option.some.inj (hv186_0.symm.trans hx186_0)
                                                  injection hv186_0 with hva_ hvn_ hvc_
                                                  rw [hva_] at ge186_0
                                                  rw [hvc_] at ul186_0
                                                  have HL186_0 := Aside0.mk (show Kd.V (Kd.int .i64) 3 _ w.heap.size _ _ (rd_L4 t170 x9_1) from Kd.V_mk ul186_0 ge186_0)
                                                  clear hva_ hvn_ hvc_ ge186_0 ul186_0
                                                  clear hcc186 hce186
                                                  have HR186_0 := Aside0.mk hi186_0
                                                  have HC186_0 := Aside0.mk hl186_0
                                                  clear hi186_0 hl186_0
                                                  replace p186 := eq_true p186
                                                  replace q186 := eq_true q186
                                                  have p187 : 0 ≤ (x10_3 : Int) := of_decide_eq_true (by first | (with_reducible assumption) | assumption)
                                                  have q187 : x10_3 < ((rd_L4 t170 x9_1).length : Int) := of_decide_eq_true (by first | (with_reducible assumption) | assumption)
                                                  obtain ⟨ad187, e187, hx187_0⟩ := Kd.at_int (by repeat (first | (with_reducible exact HR186_0.out) | (with_reducible refine Kd.C_alloc ?_ _) | (with_reducible refine Kd.C_drewN ?_ _) | (with_reducible refine Kd.C_drew ?_) | exact HR186_0.out)) x10_3 p187 q187
                                                  cases e187
                                                  replace p187 := eq_true p187
                                                  replace q187 := eq_true q187
                                                  go_wp2_with (first | ((with_reducible refine gate_callee (f := 18) rfl ?_); refine goesL_ (some 82) rfl rfl Try.func18 (by kernel_rfl) rfl #[.int .i64 (rd (rd_L4 t170 x9_1) x10_3)] rfl (by (try simp only [List.map_toArray, List.map_cons, List.map_nil]); first | done | rfl | (simp only [List.length_drop, List.length_take]; rfl)) ?_; (with_reducible refine (backstepref12_Rank.calls (rd (rd_L4 t170 x9_1) x10_3) t188 _ A46.out).mono ?_); rintro e w' ⟨rfl, ⟨nd, rfl⟩⟩; refine ⟨_, rfl, ?_⟩) | ((with_reducible refine gate_builtin (b := .append) (xs := #[.tmp 74, .tmp 83]) rfl ?_); (try (refine gate_guard (by rfl) ?_; dsimp only)); at_builtin; refine Kd.R_append (Kd.int .i64) (w0 := w) w.heap.size rfl (.tmp 74) (.tmp 83) 33 3 (.int .i64 0) 8 rfl Try.underlying33 info3 rfl (by decide) (by omega) u5 x5_3 t188 [.int .i64 t188] (fun k_ => some k_ ≠ (u6 : Value).ownBlock) (fun _ => False) rfl rfl ?aP (fun _ hk => hk.elim) ?aF ?aO ?aB ?aS ?aL ?_; (case aP => exact rfl); (case aB => exact (by repeat (first | (with_reducible first | exact HB.out | apply below_alloc | apply pw_below_drewN | apply below_drew1 | refine below_set ?_ GE160.out | refine below_set ?_ GE161.out) | exact HB.out))); (case aF => exact (fun k_ hk => Kd.fresh' (Kd.R_lt (by (with_reducible repeat (first | apply Kd.R_alloc | apply Kd.R_drewN | apply Kd.R_drew)); exact HO_6.out)) k_ hk)); (case aO => exact (by (with_reducible repeat (first | apply Kd.R_alloc | apply Kd.R_drewN | apply Kd.R_drew)); exact HO_5.out)); (case aS => exact (below_size (by repeat (first | (with_reducible first | exact HB.out | apply below_alloc | apply pw_below_drewN | apply below_drew1 | refine below_set ?_ GE160.out | refine below_set ?_ GE161.out) | exact HB.out)))); (case aL => have := LMc47.out; omega); intro v190 w52 ho hb hg hat; rw [← Ny189.out] at ho; have n0_ := Aside0.mk (Kd.R_after (ok := (fun _ => True)) (by (with_reducible repeat (first | apply Kd.R_alloc | apply Kd.R_drewN | apply Kd.R_drew)); exact Kd.R_mono HO_6.out (fun _ hk => ⟨trivial, hk⟩)) hg hat); have n1_ := Aside0.mk (Kd.N_afterv (ok := (fun k_ => some k_ ≠ (u6 : Value).ownBlock ∧ some k_ ≠ (.slice (some ad180) t173.length co34 : Value).ownBlock ∧ k_ ≠ gb160 ∧ k_ ≠ gb161)) (by (with_reducible repeat (first | apply Kd.N_alloc | apply Kd.N_drewN | apply Kd.N_drew)); exact Kd.N_mono HO_7.out (fun _ hk => ⟨⟨hk.2.1, ⟨hk.2.2.1, ⟨hk.2.2.2.1, hk.2.2.2.2⟩⟩⟩, hk.1⟩)) hg hat); have n2_ := Aside0.mk (Kd.N_afterv (ok := (fun k_ => some k_ ≠ (u6 : Value).ownBlock ∧ some k_ ≠ (.slice (some ad176) t170.length co32 : Value).ownBlock ∧ k_ ≠ gb160 ∧ k_ ≠ gb161)) (by (with_reducible repeat (first | apply Kd.N_alloc | apply Kd.N_drewN | apply Kd.N_drew)); exact Kd.N_mono HO_8.out (fun _ hk => ⟨⟨hk.2.1, ⟨hk.2.2.1, ⟨hk.2.2.2.1, hk.2.2.2.2⟩⟩⟩, hk.1⟩)) hg hat); have n3_ := Aside0.mk (blk_grown (g := gb160) (o := .cells #[.slice A0_0 l0_0.length c0_0, .slice A0_1 l0_1.length c0_1, .slice A0_2 l0_2.length c0_2] 35 (0, 0)) (by (with_reducible repeat (first | refine blk_drewN ?_ _ | refine blk_drew ?_ | refine blk_alloc ?_ _)); exact BK160.out) hg (Kd.R_ne HO_5.out BK160.out (by decide))); have n4_ := Aside0.mk (blk_grown (g := gb161) (o := .cells #[.slice A1_0 l1_0.length c1_0, .slice A1_1 l1_1.length c1_1, .slice A1_2 l1_2.length c1_2] 35 (0, 0)) (by (with_reducible repeat (first | refine blk_drewN ?_ _ | refine blk_drew ?_ | refine blk_alloc ?_ _)); exact BK161.out) hg (Kd.R_ne HO_5.out BK161.out (by decide))); have n5_ := Aside0.mk (Kd.V_afterv (ok := (fun k_ => some k_ ≠ (u6 : Value).ownBlock ∧ some k_ ≠ (.slice (some ad176) t170.length co32 : Value).ownBlock ∧ some k_ ≠ (.slice (some ad180) t173.length co34 : Value).ownBlock ∧ k_ ≠ gb160 ∧ k_ ≠ gb161)) (by (with_reducible repeat (first | apply Kd.V_alloc | apply Kd.V_drewN | apply Kd.V_drew)); exact Kd.V_mono HL186_0.out (fun _ hk => ⟨⟨hk.1.2.1, ⟨hk.2, ⟨hk.1.2.2.1, ⟨hk.1.2.2.2.1, hk.1.2.2.2.2⟩⟩⟩⟩, hk.1.1⟩)) hg hat); have n6_ := Aside0.mk (hb); have n7_ := Aside0.mk (ho); clear HO_6; clear HO_7; clear HO_8; clear BK160; clear BK161; clear HL186_0; clear HB; clear HO_5; have HO_6 := n0_; have HO_7 := n1_; have HO_8 := n2_; have BK160 := n3_; have BK161 := n4_; have HL186_0 := n5_; have HB := n6_; have HO191 := n7_; clear n0_ n1_ n2_ n3_ n4_ n5_ n6_ n7_; clear ho hb hg hat; have p192 : 0 ≤ (x9_1 : Int) := of_decide_eq_true (by first | (with_reducible assumption) | assumption); have q192 : x9_1 < (t173.length : Int) := of_decide_eq_true (by first | (with_reducible assumption) | assumption); obtain ⟨ad192, A192_0, c192_0, e192, hx192_0, hl192_0, hi192_0⟩ := at_L4 (Kd.N_reads' HO_8.out).2.2 x9_1 p192 q192; obtain rfl : ad180 = ad192 := (by injection e192); obtain ⟨ce192, hce192, hMe192, hcc192⟩ := Kd.N_get HO_8.out [] x9_1 p192 (by first | exact q192 | exact of_decide_eq_true (by first | (with_reducible assumption) | assumption) | (have e_ := (Kd.N_reads' HO_8.out).1; omega)); obtain ⟨ua192_0, uc192_0, rfl, ul192_0, ge192_0⟩ := Kd.FK_slice_open hMe192; have hv192_0 := hcc192 0 _ rfl; rw [Nat.add_zero, show ((Kd.slice 3 (Kd.int .i64))).sz = 1 from rfl, Nat.mul_one] at hv192_0; replace hv192_0 := Option.some.inj (hv192_0.symm.trans hx192_0); injection hv192_0 with hva_ hvn_ hvc_; rw [hva_] at ge192_0; rw [hvc_] at ul192_0; have HL192_0 := Aside0.mk (show Kd.V (Kd.int .i64) 3 _ w.heap.size _ _ (rd_L4 t173 x9_1) from Kd.V_mk ul192_0 ge192_0); clear hva_ hvn_ hvc_ ge192_0 ul192_0; clear hcc192 hce192; have HR192_0 := Aside0.mk hi192_0; have HC192_0 := Aside0.mk hl192_0; clear hi192_0 hl192_0; replace p192 := eq_true p192; replace q192 := eq_true q192; have p193 : 0 ≤ (x10_3 : Int) := of_decide_eq_true (by first | (with_reducible assumption) | assumption); have q193 : x10_3 < ((rd_L4 t173 x9_1).length : Int) := of_decide_eq_true (by first | (with_reducible assumption) | assumption); obtain ⟨ad193, e193, hx193_0⟩ := Kd.at_int (by repeat (first | (with_reducible exact HR192_0.out) | (with_reducible refine Kd.C_alloc ?_ _) | (with_reducible refine Kd.C_drewN ?_ _) | (with_reducible refine Kd.C_drew ?_) | exact HR192_0.out)) x10_3 p193 q193; cases e193; replace p193 := eq_true p193; replace q193 := eq_true q193) | ((with_reducible refine gate_callee (f := 18) rfl ?_); refine goesL_ (some 93) rfl rfl Try.func18 (by kernel_rfl) rfl #[.int .i64 (rd (rd_L4 t173 x9_1) x10_3)] rfl (by (try simp only [List.map_toArray, List.map_cons, List.map_nil]); first | done | rfl | (simp only [List.length_drop, List.length_take]; rfl)) ?_; (with_reducible refine (backstepref12_Rank.calls (rd (rd_L4 t173 x9_1) x10_3) t194 _ A50.out).mono ?_); rintro e w' ⟨rfl, ⟨nd, rfl⟩⟩; refine ⟨_, rfl, ?_⟩) | ((with_reducible refine gate_builtin (b := .append) (xs := #[.tmp 85, .tmp 94]) rfl ?_); (try (refine gate_guard (by rfl) ?_; dsimp only)); at_builtin; refine Kd.R_append (Kd.int .i64) (w0 := w) w.heap.size rfl (.tmp 85) (.tmp 94) 33 3 (.int .i64 0) 8 rfl Try.underlying33 info3 rfl (by decide) (by omega) u6 x6_3 t194 [.int .i64 t194] (fun k_ => some k_ ≠ (v190 : Value).ownBlock) (fun _ => False) rfl rfl ?aP (fun _ hk => hk.elim) ?aF ?aO ?aB ?aS ?aL ?_; (case aP => exact rfl); (case aB => exact (by repeat (first | (with_reducible first | exact HB.out | apply below_alloc | apply pw_below_drewN | apply below_drew1 | refine below_set ?_ GE160.out | refine below_set ?_ GE161.out) | exact HB.out))); (case aF => exact (fun k_ hk => Kd.fresh' (Kd.R_lt (by (with_reducible repeat (first | apply Kd.R_alloc | apply Kd.R_drewN | apply Kd.R_drew)); exact HO191.out)) k_ hk)); (case aO => exact (by (with_reducible repeat (first | apply Kd.R_alloc | apply Kd.R_drewN | apply Kd.R_drew)); exact Kd.R_mono HO_6.out (fun _ hk => hk.2))); (case aS => exact (below_size (by repeat (first | (with_reducible first | exact HB.out | apply below_alloc | apply pw_below_drewN | apply below_drew1 | refine below_set ?_ GE160.out | refine below_set ?_ GE161.out) | exact HB.out)))); (case aL => have := LMc51.out; omega); intro v196 w53 ho hb hg hat; rw [← Ny195.out] at ho; have n0_ := Aside0.mk (Kd.N_afterv (ok := (fun k_ => some k_ ≠ (.slice (some ad180) t173.length co34 : Value).ownBlock ∧ some k_ ≠ (v190 : Value).ownBlock ∧ k_ ≠ gb160 ∧ k_ ≠ gb161)) (by (with_reducible repeat (first | apply Kd.N_alloc | apply Kd.N_drewN | apply Kd.N_drew)); exact Kd.N_mono HO_7.out (fun _ hk => ⟨⟨hk.1.2.1, ⟨hk.2, ⟨hk.1.2.2.1, hk.1.2.2.2⟩⟩⟩, hk.1.1⟩)) hg hat); have n1_ := Aside0.mk (Kd.N_afterv (ok := (fun k_ => some k_ ≠ (.slice (some ad176) t170.length co32 : Value).ownBlock ∧ some k_ ≠ (v190 : Value).ownBlock ∧ k_ ≠ gb160 ∧ k_ ≠ gb161)) (by (with_reducible repeat (first | apply Kd.N_alloc | apply Kd.N_drewN | apply Kd.N_drew)); exact Kd.N_mono HO_8.out (fun _ hk => ⟨⟨hk.1.2.1, ⟨hk.2, ⟨hk.1.2.2.1, hk.1.2.2.2⟩⟩⟩, hk.1.1⟩)) hg hat); have n2_ := Aside0.mk (blk_grown (g := gb160) (o := .cells #[.slice A0_0 l0_0.length c0_0, .slice A0_1 l0_1.length c0_1, .slice A0_2 l0_2.length c0_2] 35 (0, 0)) (by (with_reducible repeat (first | refine blk_drewN ?_ _ | refine blk_drew ?_ | refine blk_alloc ?_ _)); exact BK160.out) hg (Kd.R_ne HO_6.out BK160.out (by decide))); have n3_ := Aside0.mk (blk_grown (g := gb161) (o := .cells #[.slice A1_0 l1_0.length c1_0, .slice A1_1 l1_1.length c1_1, .slice A1_2 l1_2.length c1_2] 35 (0, 0)) (by (with_reducible repeat (first | refine blk_drewN ?_ _ | refine blk_drew ?_ | refine blk_alloc ?_ _)); exact BK161.out) hg (Kd.R_ne HO_6.out BK161.out (by decide))); have n4_ := Aside0.mk (Kd.V_afterv (ok := (fun k_ => some k_ ≠ (.slice (some ad176) t170.length co32 : Value).ownBlock ∧ some k_ ≠ (.slice (some ad180) t173.length co34 : Value).ownBlock ∧ some k_ ≠ (v190 : Value).ownBlock ∧ k_ ≠ gb160 ∧ k_ ≠ gb161)) (by (with_reducible repeat (first | apply Kd.V_alloc | apply Kd.V_drewN | apply Kd.V_drew)); exact Kd.V_mono HL186_0.out (fun _ hk => ⟨⟨hk.1.2.1, ⟨hk.1.2.2.1, ⟨hk.2, ⟨hk.1.2.2.2.1, hk.1.2.2.2.2⟩⟩⟩⟩, hk.1.1⟩)) hg hat); have n5_ := Aside0.mk (Kd.R_after (ok := (fun _ => True)) (by (with_reducible repeat (first | apply Kd.R_alloc | apply Kd.R_drewN | apply Kd.R_drew)); exact Kd.R_mono HO191.out (fun _ hk => ⟨trivial, hk⟩)) hg hat); have n6_ := Aside0.mk (Kd.V_afterv (ok := (fun k_ => some k_ ≠ (.slice (some ad176) t170.length co32 : Value).ownBlock ∧ some k_ ≠ (.slice (some ad180) t173.length co34 : Value).ownBlock ∧ some k_ ≠ (v190 : Value).ownBlock ∧ k_ ≠ gb160 ∧ k_ ≠ gb161)) (by (with_reducible repeat (first | apply Kd.V_alloc | apply Kd.V_drewN | apply Kd.V_drew)); exact Kd.V_mono HL192_0.out (fun _ hk => ⟨⟨hk.1.1.2.1, ⟨hk.2, ⟨hk.1.2, ⟨hk.1.1.2.2.1, hk.1.1.2.2.2⟩⟩⟩⟩, hk.1.1.1⟩)) hg hat); have n7_ := Aside0.mk (hb); have n8_ := Aside0.mk (ho); clear HO_7; clear HO_8; clear BK160; clear BK161; clear HL186_0; clear HO191; clear HL192_0; clear HB; clear HO_6; have HO_7 := n0_; have HO_8 := n1_; have BK160 := n2_; have BK161 := n3_; have HL186_0 := n4_; have HO191 := n5_; have HL192_0 := n6_; have HB := n7_; have HO197 := n8_; clear n0_ n1_ n2_ n3_ n4_ n5_ n6_ n7_ n8_; clear ho hb hg hat))
                                                  go_roundg kj35
                                                  case measure => have := HK1.out; have := HJ20.out; have := HK3.out; have := HJ35.out; omega
                                                  case rel => exact ⟨(y189), (y195), (wrap64 (x10_3 + 1)), (by first | rfl | (simp; done) | (simp [*]; done)), H', ⟨by have := HK1.out; have := HJ20.out; have := HK3.out; have := HJ35.out; omega⟩, ⟨by (with_reducible repeat (first | apply Kd.R_alloc | apply Kd.R_drewN | apply Kd.R_drew)); exact Kd.R_mono HO191.out (fun _ hk => hk.2)⟩, ⟨by (with_reducible repeat (first | apply Kd.R_alloc | apply Kd.R_drewN | apply Kd.R_drew)); exact HO197.out⟩, ⟨by (with_reducible repeat (first | apply Kd.N_alloc | apply Kd.N_drewN | apply Kd.N_drew)); exact Kd.N_mono HO_7.out (fun _ hk => ⟨hk.1.2.1, ⟨hk.2, ⟨hk.1.1, ⟨hk.1.2.2.1, hk.1.2.2.2⟩⟩⟩⟩)⟩, ⟨by (with_reducible repeat (first | apply Kd.N_alloc | apply Kd.N_drewN | apply Kd.N_drew)); exact Kd.N_mono HO_8.out (fun _ hk => ⟨hk.1.2.1, ⟨hk.2, ⟨hk.1.1, ⟨hk.1.2.2.1, hk.1.2.2.2⟩⟩⟩⟩)⟩, ⟨by (with_reducible repeat (first | refine blk_drewN ?_ _ | refine blk_drew ?_ | refine blk_alloc ?_ _)); exact BK160.out⟩, ⟨by (with_reducible repeat (first | refine blk_drewN ?_ _ | refine blk_drew ?_ | refine blk_alloc ?_ _)); exact BK161.out⟩, ⟨by repeat (first | (with_reducible first | exact HB.out | apply below_alloc | apply pw_below_drewN | apply below_drew1 | refine below_set ?_ GE160.out | refine below_set ?_ GE161.out) | exact HB.out)⟩⟩
                                                · rw [if_neg c51] at H
                                                  exact absurd H (by simp)
                                              · rw [if_neg c49] at H
                                                exact absurd H (by simp)
                                            · rw [if_neg c48] at H
                                              exact absurd H (by simp)
                                          · rw [if_neg c47] at H
                                            exact absurd H (by simp)
                                        · rw [if_neg c45] at H
                                          exact absurd H (by simp)
                                      · rw [if_neg c44] at H
                                        exact absurd H (by simp)
                                    · rw [if_neg c43] at H
                                      exact absurd H (by simp)
                                  · rw [if_neg c42] at H
                                    exact absurd H (by simp)
                                · replace c41 := Bool.eq_false_iff.mpr c41
                                  subst c41
                                  have H1 : (if 0 ≤ x9_1 then (if x9_1 < (t170.length : Int) then (if x9_1 < (t173.length : Int) then (if ((rd_L4 t170 x9_1).length : Int) = ((rd_L4 t173 x9_1).length : Int) then (backstepref12_Compare.l0 kj35 x5_3 x6_3 t170 t173 (wrap64 (x9_1 + 1))) else (backstepref12_Compare.j4 kj35 x5_3 x6_3)) else (none)) else (none)) else (none)) = some r := by rw [if_neg (show ¬ (false = true) by decide)] at H; exact H
                                  clear H
                                  have H := H1
                                  clear H1
                                  by_cases c54 : 0 ≤ x9_1
                                  · rw [if_pos c54] at H
                                    have c54b0 : decide (0 ≤ x9_1) = true := decide_eq_true c54
                                    clear c54
                                    by_cases c55 : x9_1 < (t170.length : Int)
                                    · rw [if_pos c55] at H
                                      have c55b0 : decide (x9_1 < (t170.length : Int)) = true := decide_eq_true c55
                                      clear c55
                                      by_cases c56 : x9_1 < (t173.length : Int)
                                      · rw [if_pos c56] at H
                                        have c56b0 : decide (x9_1 < (t173.length : Int)) = true := decide_eq_true c56
                                        clear c56
                                        by_cases c57 : ((rd_L4 t170 x9_1).length : Int) = ((rd_L4 t173 x9_1).length : Int)
                                        · rw [if_pos c57] at H
                                          have c57b0 : (((rd_L4 t170 x9_1).length : Int) == ((rd_L4 t173 x9_1).length : Int)) = true := beq_iff_eq.mpr c57
                                          have c57b1 : (((rd_L4 t170 x9_1).length : Int) != ((rd_L4 t173 x9_1).length : Int)) = false := bne_eq_false_iff_eq.mpr c57
                                          have c57b2 : ((rd_L4 t170 x9_1).length == (rd_L4 t173 x9_1).length) = true := by first | simpa using c57 | (simp at c57 ⊢; omega)
                                          clear c57
                                          have H' := Aside0.mk H
                                          clear H
                                          try go_wp2
                                          have n0_ := Aside0.mk (Kd.R_drew HO_5.out)
                                          have n1_ := Aside0.mk (Kd.R_drew HO_6.out)
                                          have n2_ := Aside0.mk (Kd.N_drew HO_7.out)
                                          have n3_ := Aside0.mk (Kd.N_drew HO_8.out)
                                          have n4_ := Aside0.mk (blk_drew BK160.out)
                                          have n5_ := Aside0.mk (blk_drew BK161.out)
                                          have n6_ := Aside0.mk (below_drew1 HB.out)
                                          clear HO_5
                                          clear HO_6
                                          clear HO_7
                                          clear HO_8
                                          clear BK160
                                          clear BK161
                                          clear HB
                                          have HO_5 := n0_
                                          have HO_6 := n1_
                                          have HO_7 := n2_
                                          have HO_8 := n3_
                                          have BK160 := n4_
                                          have BK161 := n5_
                                          have HB := n6_
                                          clear n0_ n1_ n2_ n3_ n4_ n5_ n6_
                                          have p198 : 0 ≤ (x9_1 : Int) := of_decide_eq_true (by first | (with_reducible assumption) | assumption)
                                          have q198 : x9_1 < (t170.length : Int) := of_decide_eq_true (by first | (with_reducible assumption) | assumption)
                                          obtain ⟨ad198, A198_0, c198_0, e198, hx198_0, hl198_0, hi198_0⟩ := at_L4 (Kd.N_reads' HO_7.out).2.2 x9_1 p198 q198
                                          obtain rfl : ad176 = ad198 := (by injection e198)
                                          obtain ⟨ce198, hce198, hMe198, hcc198⟩ := Kd.N_get HO_7.out [] x9_1 p198 (by first | exact q198 | exact of_decide_eq_true (by first | (with_reducible assumption) | assumption) | (have e_ := (Kd.N_reads' HO_7.out).1; omega))
                                          obtain ⟨ua198_0, uc198_0, rfl, ul198_0, ge198_0⟩ := Kd.FK_slice_open hMe198
                                          have hv198_0 := hcc198 0 _ rfl
                                          rw [Nat.add_zero, show ((Kd.slice 3 (Kd.int .i64))).sz = 1 from rfl, Nat.mul_one] at hv198_0
                                          replace hv198_0 := Option.some.inj (hv198_0.symm.trans hx198_0)
                                          injection hv198_0 with hva_ hvn_ hvc_
                                          rw [hva_] at ge198_0
                                          rw [hvc_] at ul198_0
                                          have HL198_0 := Aside0.mk (show Kd.V (Kd.int .i64) 3 _ w.heap.size _ _ (rd_L4 t170 x9_1) from Kd.V_mk ul198_0 ge198_0)
                                          clear hva_ hvn_ hvc_ ge198_0 ul198_0
                                          clear hcc198 hce198
                                          have HR198_0 := Aside0.mk hi198_0
                                          have HC198_0 := Aside0.mk hl198_0
                                          clear hi198_0 hl198_0
                                          replace p198 := eq_true p198
                                          replace q198 := eq_true q198
                                          have p199 : 0 ≤ (x9_1 : Int) := of_decide_eq_true (by first | (with_reducible assumption) | assumption)
                                          have q199 : x9_1 < (t173.length : Int) := of_decide_eq_true (by first | (with_reducible assumption) | assumption)
                                          obtain ⟨ad199, A199_0, c199_0, e199, hx199_0, hl199_0, hi199_0⟩ := at_L4 (Kd.N_reads' HO_8.out).2.2 x9_1 p199 q199
                                          obtain rfl : ad180 = ad199 := (by injection e199)
                                          obtain ⟨ce199, hce199, hMe199, hcc199⟩ := Kd.N_get HO_8.out [] x9_1 p199 (by first | exact q199 | exact of_decide_eq_true (by first | (with_reducible assumption) | assumption) | (have e_ := (Kd.N_reads' HO_8.out).1; omega))
                                          obtain ⟨ua199_0, uc199_0, rfl, ul199_0, ge199_0⟩ := Kd.FK_slice_open hMe199
                                          have hv199_0 := hcc199 0 _ rfl
                                          rw [Nat.add_zero, show ((Kd.slice 3 (Kd.int .i64))).sz = 1 from rfl, Nat.mul_one] at hv199_0
                                          replace hv199_0 := Option.some.inj (hv199_0.symm.trans hx199_0)
                                          injection hv199_0 with hva_ hvn_ hvc_
                                          rw [hva_] at ge199_0
                                          rw [hvc_] at ul199_0
                                          have HL199_0 := Aside0.mk (show Kd.V (Kd.int .i64) 3 _ w.heap.size _ _ (rd_L4 t173 x9_1) from Kd.V_mk ul199_0 ge199_0)
                                          clear hva_ hvn_ hvc_ ge199_0 ul199_0
                                          clear hcc199 hce199
                                          have HR199_0 := Aside0.mk hi199_0
                                          have HC199_0 := Aside0.mk hl199_0
                                          clear hi199_0 hl199_0
                                          replace p199 := eq_true p199
                                          replace q199 := eq_true q199
                                          refine start_ (n := 11) (S := fun w' => w'.cell? (ad176.add (x9_1).toNat) = some (.slice A198_0 (rd_L4 t170 x9_1).length c198_0) ∧ w'.cell? (ad180.add (x9_1).toNat) = some (.slice A199_0 (rd_L4 t173 x9_1).length c199_0)) (ds := []) #[false, false, false, false, false, false, false, false, false, false, false] (by kernel_rfl) rfl rfl ⟨hx198_0, hx199_0⟩ (fun hHeld => ?_); refine with_tabW backstepref12_Compare.tab13 backstepref12_Compare.bits13 (fun HT_ HW_ => ?_)
                                          generalize wc.drew = w58 at HO_5 HO_6 HO_7 HO_8 BK160 BK161 HB HL198_0 HL199_0 HR198_0 HR199_0 hx198_0 hx199_0 hHeld ⊢
                                          refine pure_ (i := 0) (N := some 96) (v := ?_) (a' := ?_) #[true, false, false, false, false, false, false, false, false, false, false] rfl rfl (any_of HT_.out (by kernel_rfl)) (fun _ _ _ h => h) (Or.inl ⟨by rfl, ?_⟩) ?_ ?_
                                          rotate_left
                                          · intro w'
                                            go_simp
                                            with_reducible rfl
                                          rotate_left
                                          · simp only [Act.put, List.setIfInBounds_toArray, List.set_cons_zero, List.set_cons_succ, i64_w, i32_w]
                                            rfl
                                          refine pure_ (i := 1) (N := some 97) (v := ?_) (a' := ?_) #[true, true, false, false, false, false, false, false, false, false, false] rfl rfl (any_of HT_.out (by kernel_rfl)) (fun _ _ _ h => h) (Or.inl ⟨by rfl, ?_⟩) ?_ ?_
                                          rotate_left
                                          · intro w'
                                            go_simp
                                            with_reducible rfl
                                          rotate_left
                                          · simp only [Act.put, List.setIfInBounds_toArray, List.set_cons_zero, List.set_cons_succ, i64_w, i32_w]
                                            rfl
                                          refine pure_ (i := 2) (N := some 98) (v := ?_) (a' := ?_) #[true, true, true, false, false, false, false, false, false, false, false] rfl rfl (any_of HT_.out (by kernel_rfl)) (fun _ _ _ h => h) (Or.inl ⟨by rfl, ?_⟩) ?_ ?_
                                          rotate_left
                                          · intro w'
                                            go_simp
                                            with_reducible rfl
                                          rotate_left
                                          · simp only [Act.put, List.setIfInBounds_toArray, List.set_cons_zero, List.set_cons_succ, i64_w, i32_w]
                                            rfl
                                          refine pure_ (i := 5) (N := some 101) (v := ?_) (a' := ?_) #[true, true, true, false, false, true, false, false, false, false, false] rfl rfl (any_of HT_.out (by kernel_rfl)) (fun _ _ _ h => h) (Or.inl ⟨by rfl, ?_⟩) ?_ ?_
                                          rotate_left
                                          · intro w'
                                            go_simp
                                            with_reducible rfl
                                          rotate_left
                                          · simp only [Act.put, List.setIfInBounds_toArray, List.set_cons_zero, List.set_cons_succ, i64_w, i32_w]
                                            rfl
                                          refine pure_ (i := 6) (N := some 102) (v := ?_) (a' := ?_) #[true, true, true, false, false, true, true, false, false, false, false] rfl rfl (any_of HT_.out (by kernel_rfl)) (fun _ _ _ h => h) (Or.inl ⟨by rfl, ?_⟩) ?_ ?_
                                          rotate_left
                                          · intro w'
                                            go_simp
                                            with_reducible rfl
                                          rotate_left
                                          · simp only [Act.put, List.setIfInBounds_toArray, List.set_cons_zero, List.set_cons_succ, i64_w, i32_w]
                                            rfl
                                          refine pure_ (i := 7) (N := some 103) (v := ?_) (a' := ?_) #[true, true, true, false, false, true, true, true, false, false, false] rfl rfl (any_of HT_.out (by kernel_rfl)) (fun _ _ _ h => h) (Or.inl ⟨by rfl, ?_⟩) ?_ ?_
                                          rotate_left
                                          · intro w'
                                            go_simp
                                            with_reducible rfl
                                          rotate_left
                                          · simp only [Act.put, List.setIfInBounds_toArray, List.set_cons_zero, List.set_cons_succ, i64_w, i32_w]
                                            rfl
                                          refine take_ (i := 3) (N := some 99) (v := ?_) (a' := ?_) #[true, true, true, true, false, true, true, true, false, false, false] rfl rfl (take_ofW HT_.out HW_.out (by kernel_rfl)) (fun _ _ _ h => h) (Or.inl ⟨by rfl, ?_⟩) hHeld ?_ ?_
                                          rotate_left
                                          · rintro w' ⟨s0, s1⟩
                                            go_simp
                                            with_reducible rfl
                                          rotate_left
                                          · simp only [Act.put, List.setIfInBounds_toArray, List.set_cons_zero, List.set_cons_succ, i64_w, i32_w]
                                            rfl
                                          refine pure_ (i := 4) (N := some 100) (v := ?_) (a' := ?_) #[true, true, true, true, true, true, true, true, false, false, false] rfl rfl (any_of HT_.out (by kernel_rfl)) (fun _ _ _ h => h) (Or.inl ⟨by rfl, ?_⟩) ?_ ?_
                                          rotate_left
                                          · intro w'
                                            go_simp
                                            with_reducible rfl
                                          rotate_left
                                          · simp only [Act.put, List.setIfInBounds_toArray, List.set_cons_zero, List.set_cons_succ, i64_w, i32_w]
                                            rfl
                                          refine take_ (i := 8) (N := some 104) (v := ?_) (a' := ?_) #[true, true, true, true, true, true, true, true, true, false, false] rfl rfl (take_ofW HT_.out HW_.out (by kernel_rfl)) (fun _ _ _ h => h) (Or.inl ⟨by rfl, ?_⟩) hHeld ?_ ?_
                                          rotate_left
                                          · rintro w' ⟨s0, s1⟩
                                            go_simp
                                            with_reducible rfl
                                          rotate_left
                                          · simp only [Act.put, List.setIfInBounds_toArray, List.set_cons_zero, List.set_cons_succ, i64_w, i32_w]
                                            rfl
                                          refine pure_ (i := 9) (N := some 105) (v := ?_) (a' := ?_) #[true, true, true, true, true, true, true, true, true, true, false] rfl rfl (any_of HT_.out (by kernel_rfl)) (fun _ _ _ h => h) (Or.inl ⟨by rfl, ?_⟩) ?_ ?_
                                          rotate_left
                                          · intro w'
                                            go_simp
                                            with_reducible rfl
                                          rotate_left
                                          · simp only [Act.put, List.setIfInBounds_toArray, List.set_cons_zero, List.set_cons_succ, i64_w, i32_w]
                                            rfl
                                          refine pure_ (i := 10) (N := some 106) (v := ?_) (a' := ?_) #[true, true, true, true, true, true, true, true, true, true, true] rfl rfl (any_of HT_.out (by kernel_rfl)) (fun _ _ _ h => h) (Or.inl ⟨by rfl, ?_⟩) ?_ ?_
                                          rotate_left
                                          · intro w'
                                            go_simp
                                            with_reducible rfl
                                          rotate_left
                                          · simp only [Act.put, List.setIfInBounds_toArray, List.set_cons_zero, List.set_cons_succ, i64_w, i32_w]
                                            rfl
                                          refine done_ (done_of HT_.out (by kernel_rfl)) ?_
                                          try go_wp2
                                          go_roundg kj35
                                          case measure => have := HK1.out; have := HJ20.out; have := HK3.out; have := HJ35.out; omega
                                          case rel => exact ⟨(x5_3), (x6_3), (wrap64 (x9_1 + 1)), (by first | rfl | (simp; done) | (simp [*]; done)), H', ⟨by have := HK1.out; have := HJ20.out; have := HK3.out; have := HJ35.out; omega⟩, ⟨by (with_reducible repeat (first | apply Kd.R_alloc | apply Kd.R_drewN | apply Kd.R_drew)); exact HO_5.out⟩, ⟨by (with_reducible repeat (first | apply Kd.R_alloc | apply Kd.R_drewN | apply Kd.R_drew)); exact HO_6.out⟩, ⟨by (with_reducible repeat (first | apply Kd.N_alloc | apply Kd.N_drewN | apply Kd.N_drew)); exact HO_7.out⟩, ⟨by (with_reducible repeat (first | apply Kd.N_alloc | apply Kd.N_drewN | apply Kd.N_drew)); exact HO_8.out⟩, ⟨by (with_reducible repeat (first | refine blk_drewN ?_ _ | refine blk_drew ?_ | refine blk_alloc ?_ _)); exact BK160.out⟩, ⟨by (with_reducible repeat (first | refine blk_drewN ?_ _ | refine blk_drew ?_ | refine blk_alloc ?_ _)); exact BK161.out⟩, ⟨by repeat (first | (with_reducible first | exact HB.out | apply below_alloc | apply pw_below_drewN | apply below_drew1 | refine below_set ?_ GE160.out | refine below_set ?_ GE161.out) | exact HB.out)⟩⟩
                                        · rw [if_neg c57] at H
                                          have c57b0 : (((rd_L4 t170 x9_1).length : Int) == ((rd_L4 t173 x9_1).length : Int)) = false := beq_eq_false_iff_ne.mpr c57
                                          have c57b1 : (((rd_L4 t170 x9_1).length : Int) != ((rd_L4 t173 x9_1).length : Int)) = true := bne_iff_ne.mpr c57
                                          have c57b2 : ((rd_L4 t170 x9_1).length == (rd_L4 t173 x9_1).length) = false := by first | simpa using c57 | (simp at c57 ⊢; omega)
                                          have H' := Aside0.mk H
                                          clear H
                                          try go_wp2
                                          have n0_ := Aside0.mk (Kd.R_drew HO_5.out)
                                          have n1_ := Aside0.mk (Kd.R_drew HO_6.out)
                                          have n2_ := Aside0.mk (Kd.N_drew HO_7.out)
                                          have n3_ := Aside0.mk (Kd.N_drew HO_8.out)
                                          have n4_ := Aside0.mk (blk_drew BK160.out)
                                          have n5_ := Aside0.mk (blk_drew BK161.out)
                                          have n6_ := Aside0.mk (below_drew1 HB.out)
                                          clear HO_5
                                          clear HO_6
                                          clear HO_7
                                          clear HO_8
                                          clear BK160
                                          clear BK161
                                          clear HB
                                          have HO_5 := n0_
                                          have HO_6 := n1_
                                          have HO_7 := n2_
                                          have HO_8 := n3_
                                          have BK160 := n4_
                                          have BK161 := n5_
                                          have HB := n6_
                                          clear n0_ n1_ n2_ n3_ n4_ n5_ n6_
                                          have p198 : 0 ≤ (x9_1 : Int) := of_decide_eq_true (by first | (with_reducible assumption) | assumption)
                                          have q198 : x9_1 < (t170.length : Int) := of_decide_eq_true (by first | (with_reducible assumption) | assumption)
                                          obtain ⟨ad198, A198_0, c198_0, e198, hx198_0, hl198_0, hi198_0⟩ := at_L4 (Kd.N_reads' HO_7.out).2.2 x9_1 p198 q198
                                          obtain rfl : ad176 = ad198 := (by injection e198)
                                          obtain ⟨ce198, hce198, hMe198, hcc198⟩ := Kd.N_get HO_7.out [] x9_1 p198 (by first | exact q198 | exact of_decide_eq_true (by first | (with_reducible assumption) | assumption) | (have e_ := (Kd.N_reads' HO_7.out).1; omega))
                                          obtain ⟨ua198_0, uc198_0, rfl, ul198_0, ge198_0⟩ := Kd.FK_slice_open hMe198
                                          have hv198_0 := hcc198 0 _ rfl
                                          rw [Nat.add_zero, show ((Kd.slice 3 (Kd.int .i64))).sz = 1 from rfl, Nat.mul_one] at hv198_0
                                          replace hv198_0 := Option.some.inj (hv198_0.symm.trans hx198_0)
                                          injection hv198_0 with hva_ hvn_ hvc_
                                          rw [hva_] at ge198_0
                                          rw [hvc_] at ul198_0
                                          have HL198_0 := Aside0.mk (show Kd.V (Kd.int .i64) 3 _ w.heap.size _ _ (rd_L4 t170 x9_1) from Kd.V_mk ul198_0 ge198_0)
                                          clear hva_ hvn_ hvc_ ge198_0 ul198_0
                                          clear hcc198 hce198
                                          have HR198_0 := Aside0.mk hi198_0
                                          have HC198_0 := Aside0.mk hl198_0
                                          clear hi198_0 hl198_0
                                          replace p198 := eq_true p198
                                          replace q198 := eq_true q198
                                          have p199 : 0 ≤ (x9_1 : Int) := of_decide_eq_true (by first | (with_reducible assumption) | assumption)
                                          have q199 : x9_1 < (t173.length : Int) := of_decide_eq_true (by first | (with_reducible assumption) | assumption)
                                          obtain ⟨ad199, A199_0, c199_0, e199, hx199_0, hl199_0, hi199_0⟩ := at_L4 (Kd.N_reads' HO_8.out).2.2 x9_1 p199 q199
                                          obtain rfl : ad180 = ad199 := (by injection e199)
                                          obtain ⟨ce199, hce199, hMe199, hcc199⟩ := Kd.N_get HO_8.out [] x9_1 p199 (by first | exact q199 | exact of_decide_eq_true (by first | (with_reducible assumption) | assumption) | (have e_ := (Kd.N_reads' HO_8.out).1; omega))
                                          obtain ⟨ua199_0, uc199_0, rfl, ul199_0, ge199_0⟩ := Kd.FK_slice_open hMe199
                                          have hv199_0 := hcc199 0 _ rfl
                                          rw [Nat.add_zero, show ((Kd.slice 3 (Kd.int .i64))).sz = 1 from rfl, Nat.mul_one] at hv199_0
                                          replace hv199_0 := Option.some.inj (hv199_0.symm.trans hx199_0)
                                          injection hv199_0 with hva_ hvn_ hvc_
                                          rw [hva_] at ge199_0
                                          rw [hvc_] at ul199_0
                                          have HL199_0 := Aside0.mk (show Kd.V (Kd.int .i64) 3 _ w.heap.size _ _ (rd_L4 t173 x9_1) from Kd.V_mk ul199_0 ge199_0)
                                          clear hva_ hvn_ hvc_ ge199_0 ul199_0
                                          clear hcc199 hce199
                                          have HR199_0 := Aside0.mk hi199_0
                                          have HC199_0 := Aside0.mk hl199_0
                                          clear hi199_0 hl199_0
                                          replace p199 := eq_true p199
                                          replace q199 := eq_true q199
                                          refine start_ (n := 11) (S := fun w' => w'.cell? (ad176.add (x9_1).toNat) = some (.slice A198_0 (rd_L4 t170 x9_1).length c198_0) ∧ w'.cell? (ad180.add (x9_1).toNat) = some (.slice A199_0 (rd_L4 t173 x9_1).length c199_0)) (ds := []) #[false, false, false, false, false, false, false, false, false, false, false] (by kernel_rfl) rfl rfl ⟨hx198_0, hx199_0⟩ (fun hHeld => ?_); refine with_tabW backstepref12_Compare.tab13 backstepref12_Compare.bits13 (fun HT_ HW_ => ?_)
                                          generalize wc.drew = w59 at HO_5 HO_6 HO_7 HO_8 BK160 BK161 HB HL198_0 HL199_0 HR198_0 HR199_0 hx198_0 hx199_0 hHeld ⊢
                                          refine pure_ (i := 0) (N := some 96) (v := ?_) (a' := ?_) #[true, false, false, false, false, false, false, false, false, false, false] rfl rfl (any_of HT_.out (by kernel_rfl)) (fun _ _ _ h => h) (Or.inl ⟨by rfl, ?_⟩) ?_ ?_
                                          rotate_left
                                          · intro w'
                                            go_simp
                                            with_reducible rfl
                                          rotate_left
                                          · simp only [Act.put, List.setIfInBounds_toArray, List.set_cons_zero, List.set_cons_succ, i64_w, i32_w]
                                            rfl
                                          refine pure_ (i := 1) (N := some 97) (v := ?_) (a' := ?_) #[true, true, false, false, false, false, false, false, false, false, false] rfl rfl (any_of HT_.out (by kernel_rfl)) (fun _ _ _ h => h) (Or.inl ⟨by rfl, ?_⟩) ?_ ?_
                                          rotate_left
                                          · intro w'
                                            go_simp
                                            with_reducible rfl
                                          rotate_left
                                          · simp only [Act.put, List.setIfInBounds_toArray, List.set_cons_zero, List.set_cons_succ, i64_w, i32_w]
                                            rfl
                                          refine pure_ (i := 2) (N := some 98) (v := ?_) (a' := ?_) #[true, true, true, false, false, false, false, false, false, false, false] rfl rfl (any_of HT_.out (by kernel_rfl)) (fun _ _ _ h => h) (Or.inl ⟨by rfl, ?_⟩) ?_ ?_
                                          rotate_left
                                          · intro w'
                                            go_simp
                                            with_reducible rfl
                                          rotate_left
                                          · simp only [Act.put, List.setIfInBounds_toArray, List.set_cons_zero, List.set_cons_succ, i64_w, i32_w]
                                            rfl
                                          refine pure_ (i := 5) (N := some 101) (v := ?_) (a' := ?_) #[true, true, true, false, false, true, false, false, false, false, false] rfl rfl (any_of HT_.out (by kernel_rfl)) (fun _ _ _ h => h) (Or.inl ⟨by rfl, ?_⟩) ?_ ?_
                                          rotate_left
                                          · intro w'
                                            go_simp
                                            with_reducible rfl
                                          rotate_left
                                          · simp only [Act.put, List.setIfInBounds_toArray, List.set_cons_zero, List.set_cons_succ, i64_w, i32_w]
                                            rfl
                                          refine pure_ (i := 6) (N := some 102) (v := ?_) (a' := ?_) #[true, true, true, false, false, true, true, false, false, false, false] rfl rfl (any_of HT_.out (by kernel_rfl)) (fun _ _ _ h => h) (Or.inl ⟨by rfl, ?_⟩) ?_ ?_
                                          rotate_left
                                          · intro w'
                                            go_simp
                                            with_reducible rfl
                                          rotate_left
                                          · simp only [Act.put, List.setIfInBounds_toArray, List.set_cons_zero, List.set_cons_succ, i64_w, i32_w]
                                            rfl
                                          refine pure_ (i := 7) (N := some 103) (v := ?_) (a' := ?_) #[true, true, true, false, false, true, true, true, false, false, false] rfl rfl (any_of HT_.out (by kernel_rfl)) (fun _ _ _ h => h) (Or.inl ⟨by rfl, ?_⟩) ?_ ?_
                                          rotate_left
                                          · intro w'
                                            go_simp
                                            with_reducible rfl
                                          rotate_left
                                          · simp only [Act.put, List.setIfInBounds_toArray, List.set_cons_zero, List.set_cons_succ, i64_w, i32_w]
                                            rfl
                                          refine take_ (i := 3) (N := some 99) (v := ?_) (a' := ?_) #[true, true, true, true, false, true, true, true, false, false, false] rfl rfl (take_ofW HT_.out HW_.out (by kernel_rfl)) (fun _ _ _ h => h) (Or.inl ⟨by rfl, ?_⟩) hHeld ?_ ?_
                                          rotate_left
                                          · rintro w' ⟨s0, s1⟩
                                            go_simp
                                            with_reducible rfl
                                          rotate_left
                                          · simp only [Act.put, List.setIfInBounds_toArray, List.set_cons_zero, List.set_cons_succ, i64_w, i32_w]
                                            rfl
                                          refine pure_ (i := 4) (N := some 100) (v := ?_) (a' := ?_) #[true, true, true, true, true, true, true, true, false, false, false] rfl rfl (any_of HT_.out (by kernel_rfl)) (fun _ _ _ h => h) (Or.inl ⟨by rfl, ?_⟩) ?_ ?_
                                          rotate_left
                                          · intro w'
                                            go_simp
                                            with_reducible rfl
                                          rotate_left
                                          · simp only [Act.put, List.setIfInBounds_toArray, List.set_cons_zero, List.set_cons_succ, i64_w, i32_w]
                                            rfl
                                          refine take_ (i := 8) (N := some 104) (v := ?_) (a' := ?_) #[true, true, true, true, true, true, true, true, true, false, false] rfl rfl (take_ofW HT_.out HW_.out (by kernel_rfl)) (fun _ _ _ h => h) (Or.inl ⟨by rfl, ?_⟩) hHeld ?_ ?_
                                          rotate_left
                                          · rintro w' ⟨s0, s1⟩
                                            go_simp
                                            with_reducible rfl
                                          rotate_left
                                          · simp only [Act.put, List.setIfInBounds_toArray, List.set_cons_zero, List.set_cons_succ, i64_w, i32_w]
                                            rfl
                                          refine pure_ (i := 9) (N := some 105) (v := ?_) (a' := ?_) #[true, true, true, true, true, true, true, true, true, true, false] rfl rfl (any_of HT_.out (by kernel_rfl)) (fun _ _ _ h => h) (Or.inl ⟨by rfl, ?_⟩) ?_ ?_
                                          rotate_left
                                          · intro w'
                                            go_simp
                                            with_reducible rfl
                                          rotate_left
                                          · simp only [Act.put, List.setIfInBounds_toArray, List.set_cons_zero, List.set_cons_succ, i64_w, i32_w]
                                            rfl
                                          refine pure_ (i := 10) (N := some 106) (v := ?_) (a' := ?_) #[true, true, true, true, true, true, true, true, true, true, true] rfl rfl (any_of HT_.out (by kernel_rfl)) (fun _ _ _ h => h) (Or.inl ⟨by rfl, ?_⟩) ?_ ?_
                                          rotate_left
                                          · intro w'
                                            go_simp
                                            with_reducible rfl
                                          rotate_left
                                          · simp only [Act.put, List.setIfInBounds_toArray, List.set_cons_zero, List.set_cons_succ, i64_w, i32_w]
                                            rfl
                                          refine done_ (done_of HT_.out (by kernel_rfl)) ?_
                                          try go_wp2
                                          go_meet
                                          case rel => exact ⟨_, (x5_3), (x6_3), H', ⟨by have := HK1.out; have := HJ20.out; have := HK3.out; have := HJ35.out; first | omega | exact Nat.le_refl _⟩, ⟨by (with_reducible repeat (first | apply Kd.R_alloc | apply Kd.R_drewN | apply Kd.R_drew)); exact HO_5.out⟩, ⟨by (with_reducible repeat (first | apply Kd.R_alloc | apply Kd.R_drewN | apply Kd.R_drew)); exact HO_6.out⟩, ⟨by (with_reducible repeat (first | refine blk_drewN ?_ _ | refine blk_drew ?_ | refine blk_alloc ?_ _)); exact BK160.out⟩, ⟨by (with_reducible repeat (first | refine blk_drewN ?_ _ | refine blk_drew ?_ | refine blk_alloc ?_ _)); exact BK161.out⟩, ⟨by repeat (first | (with_reducible first | exact HB.out | apply below_alloc | apply pw_below_drewN | apply below_drew1 | refine below_set ?_ GE160.out | refine below_set ?_ GE161.out) | exact HB.out)⟩⟩
                                      · rw [if_neg c56] at H
                                        exact absurd H (by simp)
                                    · rw [if_neg c55] at H
                                      exact absurd H (by simp)
                                  · rw [if_neg c54] at H
                                    exact absurd H (by simp)
                      · rw [if_neg c31] at H
                        exact absurd H (by simp)
                    · rw [if_neg c30] at H
                      exact absurd H (by simp)
                  · rw [if_neg c29] at H
                    exact absurd H (by simp)
                · rw [if_neg c28] at H
                  exact absurd H (by simp)
              · rw [if_neg c27] at H
                exact absurd H (by simp)
            · replace c26 := Bool.eq_false_iff.mpr c26
              subst c26
              have H1 : (backstepref12_Compare.j4 kj20 x5_1 x6_1) = some r := by rw [if_neg (show ¬ (false = true) by decide)] at H; exact H
              clear H
              have H := H1
              clear H1
              have H' := Aside0.mk H
              clear H
              go_wp2
              go_meet
              case rel => exact ⟨_, (x5_1), (x6_1), H', ⟨by have := HK1.out; have := HJ20.out; first | omega | exact Nat.le_refl _⟩, ⟨by (with_reducible repeat (first | apply Kd.R_alloc | apply Kd.R_drewN | apply Kd.R_drew)); exact HO_5.out⟩, ⟨by (with_reducible repeat (first | apply Kd.R_alloc | apply Kd.R_drewN | apply Kd.R_drew)); exact HO_6.out⟩, ⟨by (with_reducible repeat (first | refine blk_drewN ?_ _ | refine blk_drew ?_ | refine blk_alloc ?_ _)); exact BK160.out⟩, ⟨by (with_reducible repeat (first | refine blk_drewN ?_ _ | refine blk_drew ?_ | refine blk_alloc ?_ _)); exact BK161.out⟩, ⟨by repeat (first | (with_reducible first | exact HB.out | apply below_alloc | apply pw_below_drewN | apply below_drew1 | refine below_set ?_ GE160.out | refine below_set ?_ GE161.out) | exact HB.out)⟩⟩
  case rest =>
    clear HC7
    try clear c1
    try clear p1
    try clear q1
    try clear hx1
    try clear c2
    try clear p2
    try clear c3
    try clear c4
    try clear c5
    try clear p6
    try clear c15
    try clear c17
    try clear p17
    try clear q17
    try clear hx17
    try clear c18
    try clear p18
    try clear q18
    try clear hx18
    try clear c19
    try clear p19
    try clear q19
    try clear hx19
    try clear c21
    try clear c22
    try clear c22b0
    try clear c26
    try clear c27
    try clear c27b0
    try clear c28
    try clear c28b0
    try clear c29
    try clear c30
    try clear c30b0
    try clear c31
    try clear c34
    try clear c37
    try clear c37b0
    try clear c38
    try clear c38b0
    try clear c39
    try clear c39b0
    try clear c40
    try clear c40b0
    try clear c41
    try clear c42
    try clear c42b0
    try clear c43
    try clear c43b0
    try clear c44
    try clear c44b0
    try clear c45
    try clear c45b0
    try clear c47
    try clear c48
    try clear c48b0
    try clear c49
    try clear c49b0
    try clear c51
    try clear c54
    try clear c54b0
    try clear c55
    try clear c55b0
    try clear c56
    try clear c56b0
    try clear c57
    try clear c57b0
    try clear c57b1
    try clear c57b2
    try clear hx176_0
    try clear hx180_0
    try clear hx184_0
    try clear hx185_0
    try clear hx186_0
    try clear hx187_0
    try clear hx192_0
    try clear hx193_0
    try clear hx198_0
    try clear hx199_0
    try clear p1
    try clear p17
    try clear p176
    try clear p18
    try clear p180
    try clear p184
    try clear p185
    try clear p186
    try clear p187
    try clear p192
    try clear p193
    try clear p198
    try clear p199
    try clear p2
    try clear q1
    try clear q17
    try clear q176
    try clear q18
    try clear q180
    try clear q184
    try clear q185
    try clear q186
    try clear q187
    try clear q192
    try clear q193
    try clear q198
    try clear q199
    obtain ⟨kq, x5_6, x6_6, HA, HJ6, HO_5, HO_6, BK160, BK161, HB⟩ := hcut
    cases kq with
    | zero => exact absurd HA.out (by simp [backstepref12_Compare.j4])
    | succ kj6 =>
      have H := HA.out
      clear HA
      simp only [backstepref12_Compare.j4] at H
      have H' := Aside0.mk H
      clear H
      go_wp2
      go_loopg [11] kj6 (fun kq v11 w' => ∃ (x11_2 : Int), v11 = .int .i64 x11_2 ∧ Aside0 (backstepref12_Compare.l2 kq x5_6 x6_6 x11_2 = some r) ∧ Aside0 (kq ≤ kj6) ∧ Aside0 (Kd.R (Kd.int .i64) 3 w' w.heap.size (fun k_ => some k_ ≠ (u6 : Value).ownBlock) u5 x5_6) ∧ Aside0 (Kd.R (Kd.int .i64) 3 w' w.heap.size (fun k_ => some k_ ≠ (u5 : Value).ownBlock) u6 x6_6) ∧ Aside0 (w'.heap[gb160]? = some (.cells #[(.slice A0_0 l0_0.length c0_0), (.slice A0_1 l0_1.length c0_1), (.slice A0_2 l0_2.length c0_2)] 35 (0, 0))) ∧ Aside0 (w'.heap[gb161]? = some (.cells #[(.slice A1_0 l1_0.length c1_0), (.slice A1_1 l1_1.length c1_1), (.slice A1_2 l1_2.length c1_2)] 35 (0, 0))) ∧ Aside0 (Below w.heap.size w w'))
      case atStart => exact ⟨(0), (by first | rfl | (simp; done) | (simp [*]; done)), H', ⟨Nat.le_refl _⟩, ⟨by (with_reducible repeat (first | apply Kd.R_alloc | apply Kd.R_drewN | apply Kd.R_drew)); exact HO_5.out⟩, ⟨by (with_reducible repeat (first | apply Kd.R_alloc | apply Kd.R_drewN | apply Kd.R_drew)); exact HO_6.out⟩, ⟨by (with_reducible repeat (first | refine blk_drewN ?_ _ | refine blk_drew ?_ | refine blk_alloc ?_ _)); exact BK160.out⟩, ⟨by (with_reducible repeat (first | refine blk_drewN ?_ _ | refine blk_drew ?_ | refine blk_alloc ?_ _)); exact BK161.out⟩, ⟨by repeat (first | (with_reducible first | exact HB.out | apply below_alloc | apply pw_below_drewN | apply below_drew1 | refine below_set ?_ GE160.out | refine below_set ?_ GE161.out) | exact HB.out)⟩⟩
      case round =>
        clear H'
        try clear c1
        try clear p1
        try clear q1
        try clear hx1
        try clear c2
        try clear p2
        try clear c3
        try clear c4
        try clear c5
        try clear p6
        try clear c15
        try clear c17
        try clear p17
        try clear q17
        try clear hx17
        try clear c18
        try clear p18
        try clear q18
        try clear hx18
        try clear c19
        try clear p19
        try clear q19
        try clear hx19
        try clear c21
        try clear c22
        try clear c22b0
        try clear c26
        try clear c27
        try clear c27b0
        try clear c28
        try clear c28b0
        try clear c29
        try clear c30
        try clear c30b0
        try clear c31
        try clear c34
        try clear c37
        try clear c37b0
        try clear c38
        try clear c38b0
        try clear c39
        try clear c39b0
        try clear c40
        try clear c40b0
        try clear c41
        try clear c42
        try clear c42b0
        try clear c43
        try clear c43b0
        try clear c44
        try clear c44b0
        try clear c45
        try clear c45b0
        try clear c47
        try clear c48
        try clear c48b0
        try clear c49
        try clear c49b0
        try clear c51
        try clear c54
        try clear c54b0
        try clear c55
        try clear c55b0
        try clear c56
        try clear c56b0
        try clear c57
        try clear c57b0
        try clear c57b1
        try clear c57b2
        try clear hx176_0
        try clear hx180_0
        try clear hx184_0
        try clear hx185_0
        try clear hx186_0
        try clear hx187_0
        try clear hx192_0
        try clear hx193_0
        try clear hx198_0
        try clear hx199_0
        try clear p1
        try clear p17
        try clear p176
        try clear p18
        try clear p180
        try clear p184
        try clear p185
        try clear p186
        try clear p187
        try clear p19
        try clear p192
        try clear p193
        try clear p198
        try clear p199
        try clear p2
        try clear p6
        try clear q1
        try clear q17
        try clear q176
        try clear q18
        try clear q180
        try clear q184
        try clear q185
        try clear q186
        try clear q187
        try clear q19
        try clear q192
        try clear q193
        try clear q198
        try clear q199
        obtain ⟨x11_2, rfl, HA, HK2, HO_5, HO_6, BK160, BK161, HB⟩ := hrel
        cases gk with
        | zero => exact absurd HA.out (by simp [backstepref12_Compare.l2])
        | succ k2 =>
          have H := HA.out
          clear HA
          simp only [backstepref12_Compare.l2] at H
          have HC60 := Aside0.mk H
          clear H
          go_upto_region 15 with (fail)
          go_cut [116] (fun v116 wc => ∃ (kq : Nat) (x116_59 : Bool), v116 = .bool x116_59 ∧ Aside0 (backstepref12_Compare.j6 kq x5_6 x6_6 x11_2 x116_59 = some r) ∧ Aside0 (kq ≤ k2) ∧ Aside0 (Kd.R (Kd.int .i64) 3 wc w.heap.size (fun k_ => some k_ ≠ (u6 : Value).ownBlock) u5 x5_6) ∧ Aside0 (Kd.R (Kd.int .i64) 3 wc w.heap.size (fun k_ => some k_ ≠ (u5 : Value).ownBlock) u6 x6_6) ∧ Aside0 (wc.heap[gb160]? = some (.cells #[(.slice A0_0 l0_0.length c0_0), (.slice A0_1 l0_1.length c0_1), (.slice A0_2 l0_2.length c0_2)] 35 (0, 0))) ∧ Aside0 (wc.heap[gb161]? = some (.cells #[(.slice A1_0 l1_0.length c1_0), (.slice A1_1 l1_1.length c1_1), (.slice A1_2 l1_2.length c1_2)] 35 (0, 0))) ∧ Aside0 (Below w.heap.size w wc))
          case first =>
            have H := HC60.out
            clear HC60
            by_cases c61 : x11_2 < (x5_6.length : Int)
            · rw [if_pos c61] at H
              have c61b0 : decide (x11_2 < (x5_6.length : Int)) = true := decide_eq_true c61
              clear c61
              (first | rw [c61b0] | (simp only [i64_w, i32_w]; rw [c61b0]) | skip)
              have H' := Aside0.mk H
              clear H
              obtain ⟨Ao62, co62, eo62⟩ := Kd.R_slice HO_5.out
              subst eo62
              obtain ⟨Ao63, co63, eo63⟩ := Kd.R_slice HO_6.out
              subst eo63
              go_wp2
              go_meet
              case rel => exact ⟨_, (decide (x11_2 < (x6_6.length : Int))), (by first | rfl | (simp; done) | (simp [*]; done)), H', ⟨by have := HJ6.out; have := HK2.out; first | omega | exact Nat.le_refl _⟩, ⟨by (with_reducible repeat (first | apply Kd.R_alloc | apply Kd.R_drewN | apply Kd.R_drew)); exact HO_5.out⟩, ⟨by (with_reducible repeat (first | apply Kd.R_alloc | apply Kd.R_drewN | apply Kd.R_drew)); exact HO_6.out⟩, ⟨by (with_reducible repeat (first | refine blk_drewN ?_ _ | refine blk_drew ?_ | refine blk_alloc ?_ _)); exact BK160.out⟩, ⟨by (with_reducible repeat (first | refine blk_drewN ?_ _ | refine blk_drew ?_ | refine blk_alloc ?_ _)); exact BK161.out⟩, ⟨by repeat (first | (with_reducible first | exact HB.out | apply below_alloc | apply pw_below_drewN | apply below_drew1 | refine below_set ?_ GE160.out | refine below_set ?_ GE161.out) | exact HB.out)⟩⟩
            · rw [if_neg c61] at H
              have c61b0 : decide (x11_2 < (x5_6.length : Int)) = false := decide_eq_false c61
              clear c61
              (first | rw [c61b0] | (simp only [i64_w, i32_w]; rw [c61b0]) | skip)
              have H' := Aside0.mk H
              clear H
              obtain ⟨Ao64, co64, eo64⟩ := Kd.R_slice HO_5.out
              subst eo64
              go_wp2
              go_meet
              case rel => exact ⟨_, (false), (by first | rfl | (simp; done) | (simp [*]; done)), H', ⟨by have := HJ6.out; have := HK2.out; first | omega | exact Nat.le_refl _⟩, ⟨by (with_reducible repeat (first | apply Kd.R_alloc | apply Kd.R_drewN | apply Kd.R_drew)); exact HO_5.out⟩, ⟨by (with_reducible repeat (first | apply Kd.R_alloc | apply Kd.R_drewN | apply Kd.R_drew)); exact HO_6.out⟩, ⟨by (with_reducible repeat (first | refine blk_drewN ?_ _ | refine blk_drew ?_ | refine blk_alloc ?_ _)); exact BK160.out⟩, ⟨by (with_reducible repeat (first | refine blk_drewN ?_ _ | refine blk_drew ?_ | refine blk_alloc ?_ _)); exact BK161.out⟩, ⟨by repeat (first | (with_reducible first | exact HB.out | apply below_alloc | apply pw_below_drewN | apply below_drew1 | refine below_set ?_ GE160.out | refine below_set ?_ GE161.out) | exact HB.out)⟩⟩
          case rest =>
            clear HC60
            try clear c1
            try clear p1
            try clear q1
            try clear hx1
            try clear c2
            try clear p2
            try clear c3
            try clear c4
            try clear c5
            try clear c6
            try clear p6
            try clear c15
            try clear c17
            try clear p17
            try clear q17
            try clear hx17
            try clear c18
            try clear p18
            try clear q18
            try clear hx18
            try clear c19
            try clear p19
            try clear q19
            try clear hx19
            try clear c21
            try clear c22
            try clear c22b0
            try clear c26
            try clear c27
            try clear c27b0
            try clear c28
            try clear c28b0
            try clear c29
            try clear c30
            try clear c30b0
            try clear c31
            try clear c34
            try clear c37
            try clear c37b0
            try clear c38
            try clear c38b0
            try clear c39
            try clear c39b0
            try clear c40
            try clear c40b0
            try clear c41
            try clear c42
            try clear c42b0
            try clear c43
            try clear c43b0
            try clear c44
            try clear c44b0
            try clear c45
            try clear c45b0
            try clear c47
            try clear c48
            try clear c48b0
            try clear c49
            try clear c49b0
            try clear c51
            try clear c54
            try clear c54b0
            try clear c55
            try clear c55b0
            try clear c56
            try clear c56b0
            try clear c57
            try clear c57b0
            try clear c57b1
            try clear c57b2
            try clear c61
            try clear c61b0
            try clear p64
            try clear hx176_0
            try clear hx180_0
            try clear hx184_0
            try clear hx185_0
            try clear hx186_0
            try clear hx187_0
            try clear hx192_0
            try clear hx193_0
            try clear hx198_0
            try clear hx199_0
            try clear p1
            try clear p17
            try clear p176
            try clear p18
            try clear p180
            try clear p184
            try clear p185
            try clear p186
            try clear p187
            try clear p19
            try clear p192
            try clear p193
            try clear p198
            try clear p199
            try clear p2
            try clear p6
            try clear q1
            try clear q17
            try clear q176
            try clear q18
            try clear q180
            try clear q184
            try clear q185
            try clear q186
            try clear q187
            try clear q19
            try clear q192
            try clear q193
            try clear q198
            try clear q199
            obtain ⟨kq, x116_59, rfl, HA, HJ59, HO_5, HO_6, BK160, BK161, HB⟩ := hcut
            cases kq with
            | zero => exact absurd HA.out (by simp [backstepref12_Compare.j6])
            | succ kj59 =>
              have H := HA.out
              clear HA
              simp only [backstepref12_Compare.j6] at H
              by_cases c65 : x116_59 = true
              · subst c65
                have H1 : (if 0 ≤ x11_2 then (if x11_2 < (x5_6.length : Int) then (if x11_2 < (x6_6.length : Int) then (if (rd x5_6 x11_2) < (rd x6_6 x11_2) then (some (-1)) else (if (rd x5_6 x11_2) > (rd x6_6 x11_2) then (some 1) else (backstepref12_Compare.l2 kj59 x5_6 x6_6 (wrap64 (x11_2 + 1))))) else (none)) else (none)) else (none)) = some r := by rw [if_pos rfl] at H; exact H
                clear H
                have H := H1
                clear H1
                by_cases c66 : 0 ≤ x11_2
                · rw [if_pos c66] at H
                  have c66b0 : decide (0 ≤ x11_2) = true := decide_eq_true c66
                  clear c66
                  by_cases c67 : x11_2 < (x5_6.length : Int)
                  · rw [if_pos c67] at H
                    have c67b0 : decide (x11_2 < (x5_6.length : Int)) = true := decide_eq_true c67
                    clear c67
                    by_cases c68 : x11_2 < (x6_6.length : Int)
                    · rw [if_pos c68] at H
                      have c68b0 : decide (x11_2 < (x6_6.length : Int)) = true := decide_eq_true c68
                      clear c68
                      by_cases c69 : (rd x5_6 x11_2) < (rd x6_6 x11_2)
                      · rw [if_pos c69] at H
                        have c69b0 : decide ((rd x5_6 x11_2) < (rd x6_6 x11_2)) = true := decide_eq_true c69
                        clear c69
                        obtain rfl := Option.some.inj H
                        try go_wp2
                        have n0_ := Aside0.mk (Kd.R_drew HO_5.out)
                        have n1_ := Aside0.mk (Kd.R_drew HO_6.out)
                        have n2_ := Aside0.mk (blk_drew BK160.out)
                        have n3_ := Aside0.mk (blk_drew BK161.out)
                        have n4_ := Aside0.mk (below_drew1 HB.out)
                        clear HO_5
                        clear HO_6
                        clear BK160
                        clear BK161
                        clear HB
                        have HO_5 := n0_
                        have HO_6 := n1_
                        have BK160 := n2_
                        have BK161 := n3_
                        have HB := n4_
                        clear n0_ n1_ n2_ n3_ n4_
                        obtain ⟨Ao71, co71, eo71⟩ := Kd.R_slice HO_5.out
                        (first | subst eo71 | (injection eo71 with f1_ f2_ f3_; have f4_ := f1_.symm; have f5_ := f3_.symm; clear f1_ f2_ f3_; subst f4_; subst f5_))
                        have p200 : 0 ≤ (x11_2 : Int) := of_decide_eq_true (by first | (with_reducible assumption) | assumption)
                        have q200 : x11_2 < (x5_6.length : Int) := of_decide_eq_true (by first | (with_reducible assumption) | assumption)
                        obtain ⟨ad200, e200, hx200_0⟩ := Kd.at_int (Kd.R_reads' HO_5.out).2.2 x11_2 p200 q200
                        cases e200
                        replace p200 := eq_true p200
                        replace q200 := eq_true q200
                        obtain ⟨Ao72, co72, eo72⟩ := Kd.R_slice HO_6.out
                        (first | subst eo72 | (injection eo72 with f1_ f2_ f3_; have f4_ := f1_.symm; have f5_ := f3_.symm; clear f1_ f2_ f3_; subst f4_; subst f5_))
                        have p201 : 0 ≤ (x11_2 : Int) := of_decide_eq_true (by first | (with_reducible assumption) | assumption)
                        have q201 : x11_2 < (x6_6.length : Int) := of_decide_eq_true (by first | (with_reducible assumption) | assumption)
                        obtain ⟨ad201, e201, hx201_0⟩ := Kd.at_int (Kd.R_reads' HO_6.out).2.2 x11_2 p201 q201
                        cases e201
                        replace p201 := eq_true p201
                        replace q201 := eq_true q201
                        refine start_ (n := 9) (S := fun w' => w'.cell? (ad200.add (x11_2).toNat) = some (.int .i64 (rd x5_6 x11_2)) ∧ w'.cell? (ad201.add (x11_2).toNat) = some (.int .i64 (rd x6_6 x11_2))) (ds := []) #[false, false, false, false, false, false, false, false, false] (by kernel_rfl) rfl rfl ⟨hx200_0, hx201_0⟩ (fun hHeld => ?_); refine with_tabW backstepref12_Compare.tab17 backstepref12_Compare.bits17 (fun HT_ HW_ => ?_)
                        generalize wc.drew = w70 at HO_5 HO_6 BK160 BK161 HB hx200_0 hx201_0 hHeld ⊢
                        refine pure_ (i := 0) (N := some 119) (v := ?_) (a' := ?_) #[true, false, false, false, false, false, false, false, false] rfl rfl (any_of HT_.out (by kernel_rfl)) (fun _ _ _ h => h) (Or.inl ⟨by rfl, ?_⟩) ?_ ?_
                        rotate_left
                        · intro w'
                          go_simp
                          with_reducible rfl
                        rotate_left
                        · simp only [Act.put, List.setIfInBounds_toArray, List.set_cons_zero, List.set_cons_succ, i64_w, i32_w]
                          rfl
                        refine pure_ (i := 1) (N := some 120) (v := ?_) (a' := ?_) #[true, true, false, false, false, false, false, false, false] rfl rfl (any_of HT_.out (by kernel_rfl)) (fun _ _ _ h => h) (Or.inl ⟨by rfl, ?_⟩) ?_ ?_
                        rotate_left
                        · intro w'
                          go_simp
                          with_reducible rfl
                        rotate_left
                        · simp only [Act.put, List.setIfInBounds_toArray, List.set_cons_zero, List.set_cons_succ, i64_w, i32_w]
                          rfl
                        refine pure_ (i := 2) (N := some 121) (v := ?_) (a' := ?_) #[true, true, true, false, false, false, false, false, false] rfl rfl (any_of HT_.out (by kernel_rfl)) (fun _ _ _ h => h) (Or.inl ⟨by rfl, ?_⟩) ?_ ?_
                        rotate_left
                        · intro w'
                          go_simp
                          with_reducible rfl
                        rotate_left
                        · simp only [Act.put, List.setIfInBounds_toArray, List.set_cons_zero, List.set_cons_succ, i64_w, i32_w]
                          rfl
                        refine pure_ (i := 4) (N := some 123) (v := ?_) (a' := ?_) #[true, true, true, false, true, false, false, false, false] rfl rfl (any_of HT_.out (by kernel_rfl)) (fun _ _ _ h => h) (Or.inl ⟨by rfl, ?_⟩) ?_ ?_
                        rotate_left
                        · intro w'
                          go_simp
                          with_reducible rfl
                        rotate_left
                        · simp only [Act.put, List.setIfInBounds_toArray, List.set_cons_zero, List.set_cons_succ, i64_w, i32_w]
                          rfl
                        refine pure_ (i := 5) (N := some 124) (v := ?_) (a' := ?_) #[true, true, true, false, true, true, false, false, false] rfl rfl (any_of HT_.out (by kernel_rfl)) (fun _ _ _ h => h) (Or.inl ⟨by rfl, ?_⟩) ?_ ?_
                        rotate_left
                        · intro w'
                          go_simp
                          with_reducible rfl
                        rotate_left
                        · simp only [Act.put, List.setIfInBounds_toArray, List.set_cons_zero, List.set_cons_succ, i64_w, i32_w]
                          rfl
                        refine pure_ (i := 6) (N := some 125) (v := ?_) (a' := ?_) #[true, true, true, false, true, true, true, false, false] rfl rfl (any_of HT_.out (by kernel_rfl)) (fun _ _ _ h => h) (Or.inl ⟨by rfl, ?_⟩) ?_ ?_
                        rotate_left
                        · intro w'
                          go_simp
                          with_reducible rfl
                        rotate_left
                        · simp only [Act.put, List.setIfInBounds_toArray, List.set_cons_zero, List.set_cons_succ, i64_w, i32_w]
                          rfl
                        refine take_ (i := 3) (N := some 122) (v := ?_) (a' := ?_) #[true, true, true, true, true, true, true, false, false] rfl rfl (take_ofW HT_.out HW_.out (by kernel_rfl)) (fun _ _ _ h => h) (Or.inl ⟨by rfl, ?_⟩) hHeld ?_ ?_
                        rotate_left
                        · rintro w' ⟨s0, s1⟩
                          go_simp
                          with_reducible rfl
                        rotate_left
                        · simp only [Act.put, List.setIfInBounds_toArray, List.set_cons_zero, List.set_cons_succ, i64_w, i32_w]
                          rfl
                        refine take_ (i := 7) (N := some 126) (v := ?_) (a' := ?_) #[true, true, true, true, true, true, true, true, false] rfl rfl (take_ofW HT_.out HW_.out (by kernel_rfl)) (fun _ _ _ h => h) (Or.inl ⟨by rfl, ?_⟩) hHeld ?_ ?_
                        rotate_left
                        · rintro w' ⟨s0, s1⟩
                          go_simp
                          with_reducible rfl
                        rotate_left
                        · simp only [Act.put, List.setIfInBounds_toArray, List.set_cons_zero, List.set_cons_succ, i64_w, i32_w]
                          rfl
                        refine pure_ (i := 8) (N := some 127) (v := ?_) (a' := ?_) #[true, true, true, true, true, true, true, true, true] rfl rfl (any_of HT_.out (by kernel_rfl)) (fun _ _ _ h => h) (Or.inl ⟨by rfl, ?_⟩) ?_ ?_
                        rotate_left
                        · intro w'
                          go_simp
                          with_reducible rfl
                        rotate_left
                        · simp only [Act.put, List.setIfInBounds_toArray, List.set_cons_zero, List.set_cons_succ, i64_w, i32_w]
                          rfl
                        refine done_ (done_of HT_.out (by kernel_rfl)) ?_
                        try go_wp2
                        go_ret
                        exact ⟨by first | rfl | (simp [errW_none, errW_some] <;> rfl) | (simp [*, errW_none, errW_some] <;> rfl), by repeat (first | (with_reducible first | exact HB.out | apply below_alloc | apply pw_below_drewN | apply below_drew1 | refine below_set ?_ GE160.out | refine below_set ?_ GE161.out) | exact HB.out)⟩
                      · rw [if_neg c69] at H
                        have c69b0 : decide ((rd x5_6 x11_2) < (rd x6_6 x11_2)) = false := decide_eq_false c69
                        clear c69
                        by_cases c73 : (rd x5_6 x11_2) > (rd x6_6 x11_2)
                        · rw [if_pos c73] at H
                          have c73b0 : decide ((rd x6_6 x11_2) < (rd x5_6 x11_2)) = true := decide_eq_true c73
                          clear c73
                          obtain rfl := Option.some.inj H
                          try go_wp2
                          have n0_ := Aside0.mk (Kd.R_drew HO_5.out)
                          have n1_ := Aside0.mk (Kd.R_drew HO_6.out)
                          have n2_ := Aside0.mk (blk_drew BK160.out)
                          have n3_ := Aside0.mk (blk_drew BK161.out)
                          have n4_ := Aside0.mk (below_drew1 HB.out)
                          clear HO_5
                          clear HO_6
                          clear BK160
                          clear BK161
                          clear HB
                          have HO_5 := n0_
                          have HO_6 := n1_
                          have BK160 := n2_
                          have BK161 := n3_
                          have HB := n4_
                          clear n0_ n1_ n2_ n3_ n4_
                          obtain ⟨Ao75, co75, eo75⟩ := Kd.R_slice HO_5.out
                          (first | subst eo75 | (injection eo75 with f1_ f2_ f3_; have f4_ := f1_.symm; have f5_ := f3_.symm; clear f1_ f2_ f3_; subst f4_; subst f5_))
                          have p200 : 0 ≤ (x11_2 : Int) := of_decide_eq_true (by first | (with_reducible assumption) | assumption)
                          have q200 : x11_2 < (x5_6.length : Int) := of_decide_eq_true (by first | (with_reducible assumption) | assumption)
                          obtain ⟨ad200, e200, hx200_0⟩ := Kd.at_int (Kd.R_reads' HO_5.out).2.2 x11_2 p200 q200
                          cases e200
                          replace p200 := eq_true p200
                          replace q200 := eq_true q200
                          obtain ⟨Ao76, co76, eo76⟩ := Kd.R_slice HO_6.out
                          (first | subst eo76 | (injection eo76 with f1_ f2_ f3_; have f4_ := f1_.symm; have f5_ := f3_.symm; clear f1_ f2_ f3_; subst f4_; subst f5_))
                          have p201 : 0 ≤ (x11_2 : Int) := of_decide_eq_true (by first | (with_reducible assumption) | assumption)
                          have q201 : x11_2 < (x6_6.length : Int) := of_decide_eq_true (by first | (with_reducible assumption) | assumption)
                          obtain ⟨ad201, e201, hx201_0⟩ := Kd.at_int (Kd.R_reads' HO_6.out).2.2 x11_2 p201 q201
                          cases e201
                          replace p201 := eq_true p201
                          replace q201 := eq_true q201
                          refine start_ (n := 9) (S := fun w' => w'.cell? (ad200.add (x11_2).toNat) = some (.int .i64 (rd x5_6 x11_2)) ∧ w'.cell? (ad201.add (x11_2).toNat) = some (.int .i64 (rd x6_6 x11_2))) (ds := []) #[false, false, false, false, false, false, false, false, false] (by kernel_rfl) rfl rfl ⟨hx200_0, hx201_0⟩ (fun hHeld => ?_); refine with_tabW backstepref12_Compare.tab17 backstepref12_Compare.bits17 (fun HT_ HW_ => ?_)
                          generalize wc.drew = w74 at HO_5 HO_6 BK160 BK161 HB hx200_0 hx201_0 hHeld ⊢
                          refine pure_ (i := 0) (N := some 119) (v := ?_) (a' := ?_) #[true, false, false, false, false, false, false, false, false] rfl rfl (any_of HT_.out (by kernel_rfl)) (fun _ _ _ h => h) (Or.inl ⟨by rfl, ?_⟩) ?_ ?_
                          rotate_left
                          · intro w'
                            go_simp
                            with_reducible rfl
                          rotate_left
                          · simp only [Act.put, List.setIfInBounds_toArray, List.set_cons_zero, List.set_cons_succ, i64_w, i32_w]
                            rfl
                          refine pure_ (i := 1) (N := some 120) (v := ?_) (a' := ?_) #[true, true, false, false, false, false, false, false, false] rfl rfl (any_of HT_.out (by kernel_rfl)) (fun _ _ _ h => h) (Or.inl ⟨by rfl, ?_⟩) ?_ ?_
                          rotate_left
                          · intro w'
                            go_simp
                            with_reducible rfl
                          rotate_left
                          · simp only [Act.put, List.setIfInBounds_toArray, List.set_cons_zero, List.set_cons_succ, i64_w, i32_w]
                            rfl
                          refine pure_ (i := 2) (N := some 121) (v := ?_) (a' := ?_) #[true, true, true, false, false, false, false, false, false] rfl rfl (any_of HT_.out (by kernel_rfl)) (fun _ _ _ h => h) (Or.inl ⟨by rfl, ?_⟩) ?_ ?_
                          rotate_left
                          · intro w'
                            go_simp
                            with_reducible rfl
                          rotate_left
                          · simp only [Act.put, List.setIfInBounds_toArray, List.set_cons_zero, List.set_cons_succ, i64_w, i32_w]
                            rfl
                          refine pure_ (i := 4) (N := some 123) (v := ?_) (a' := ?_) #[true, true, true, false, true, false, false, false, false] rfl rfl (any_of HT_.out (by kernel_rfl)) (fun _ _ _ h => h) (Or.inl ⟨by rfl, ?_⟩) ?_ ?_
                          rotate_left
                          · intro w'
                            go_simp
                            with_reducible rfl
                          rotate_left
                          · simp only [Act.put, List.setIfInBounds_toArray, List.set_cons_zero, List.set_cons_succ, i64_w, i32_w]
                            rfl
                          refine pure_ (i := 5) (N := some 124) (v := ?_) (a' := ?_) #[true, true, true, false, true, true, false, false, false] rfl rfl (any_of HT_.out (by kernel_rfl)) (fun _ _ _ h => h) (Or.inl ⟨by rfl, ?_⟩) ?_ ?_
                          rotate_left
                          · intro w'
                            go_simp
                            with_reducible rfl
                          rotate_left
                          · simp only [Act.put, List.setIfInBounds_toArray, List.set_cons_zero, List.set_cons_succ, i64_w, i32_w]
                            rfl
                          refine pure_ (i := 6) (N := some 125) (v := ?_) (a' := ?_) #[true, true, true, false, true, true, true, false, false] rfl rfl (any_of HT_.out (by kernel_rfl)) (fun _ _ _ h => h) (Or.inl ⟨by rfl, ?_⟩) ?_ ?_
                          rotate_left
                          · intro w'
                            go_simp
                            with_reducible rfl
                          rotate_left
                          · simp only [Act.put, List.setIfInBounds_toArray, List.set_cons_zero, List.set_cons_succ, i64_w, i32_w]
                            rfl
                          refine take_ (i := 3) (N := some 122) (v := ?_) (a' := ?_) #[true, true, true, true, true, true, true, false, false] rfl rfl (take_ofW HT_.out HW_.out (by kernel_rfl)) (fun _ _ _ h => h) (Or.inl ⟨by rfl, ?_⟩) hHeld ?_ ?_
                          rotate_left
                          · rintro w' ⟨s0, s1⟩
                            go_simp
                            with_reducible rfl
                          rotate_left
                          · simp only [Act.put, List.setIfInBounds_toArray, List.set_cons_zero, List.set_cons_succ, i64_w, i32_w]
                            rfl
                          refine take_ (i := 7) (N := some 126) (v := ?_) (a' := ?_) #[true, true, true, true, true, true, true, true, false] rfl rfl (take_ofW HT_.out HW_.out (by kernel_rfl)) (fun _ _ _ h => h) (Or.inl ⟨by rfl, ?_⟩) hHeld ?_ ?_
                          rotate_left
                          · rintro w' ⟨s0, s1⟩
                            go_simp
                            with_reducible rfl
                          rotate_left
                          · simp only [Act.put, List.setIfInBounds_toArray, List.set_cons_zero, List.set_cons_succ, i64_w, i32_w]
                            rfl
                          refine pure_ (i := 8) (N := some 127) (v := ?_) (a' := ?_) #[true, true, true, true, true, true, true, true, true] rfl rfl (any_of HT_.out (by kernel_rfl)) (fun _ _ _ h => h) (Or.inl ⟨by rfl, ?_⟩) ?_ ?_
                          rotate_left
                          · intro w'
                            go_simp
                            with_reducible rfl
                          rotate_left
                          · simp only [Act.put, List.setIfInBounds_toArray, List.set_cons_zero, List.set_cons_succ, i64_w, i32_w]
                            rfl
                          refine done_ (done_of HT_.out (by kernel_rfl)) ?_
                          try go_wp2
                          have n0_ := Aside0.mk (Kd.R_drew HO_5.out)
                          have n1_ := Aside0.mk (Kd.R_drew HO_6.out)
                          have n2_ := Aside0.mk (blk_drew BK160.out)
                          have n3_ := Aside0.mk (blk_drew BK161.out)
                          have n4_ := Aside0.mk (below_drew1 HB.out)
                          clear HO_5
                          clear HO_6
                          clear BK160
                          clear BK161
                          clear HB
                          have HO_5 := n0_
                          have HO_6 := n1_
                          have BK160 := n2_
                          have BK161 := n3_
                          have HB := n4_
                          clear n0_ n1_ n2_ n3_ n4_
                          have p202 : 0 ≤ (x11_2 : Int) := of_decide_eq_true (by first | (with_reducible assumption) | assumption)
                          have q202 : x11_2 < (x5_6.length : Int) := of_decide_eq_true (by first | (with_reducible assumption) | assumption)
                          obtain ⟨ad202, e202, hx202_0⟩ := Kd.at_int (Kd.R_reads' HO_5.out).2.2 x11_2 p202 q202
                          obtain rfl : ad200 = ad202 := (by injection e202)
                          replace p202 := eq_true p202
                          replace q202 := eq_true q202
                          have p203 : 0 ≤ (x11_2 : Int) := of_decide_eq_true (by first | (with_reducible assumption) | assumption)
                          have q203 : x11_2 < (x6_6.length : Int) := of_decide_eq_true (by first | (with_reducible assumption) | assumption)
                          obtain ⟨ad203, e203, hx203_0⟩ := Kd.at_int (Kd.R_reads' HO_6.out).2.2 x11_2 p203 q203
                          obtain rfl : ad201 = ad203 := (by injection e203)
                          replace p203 := eq_true p203
                          replace q203 := eq_true q203
                          refine start_ (n := 9) (S := fun w' => w'.cell? (ad200.add (x11_2).toNat) = some (.int .i64 (rd x5_6 x11_2)) ∧ w'.cell? (ad201.add (x11_2).toNat) = some (.int .i64 (rd x6_6 x11_2))) (ds := []) #[false, false, false, false, false, false, false, false, false] (by kernel_rfl) rfl rfl ⟨hx202_0, hx203_0⟩ (fun hHeld => ?_); refine with_tabW backstepref12_Compare.tab19 backstepref12_Compare.bits19 (fun HT_ HW_ => ?_)
                          generalize w74.drew = w77 at HO_5 HO_6 BK160 BK161 HB hx202_0 hx203_0 hHeld ⊢
                          refine pure_ (i := 0) (N := some 128) (v := ?_) (a' := ?_) #[true, false, false, false, false, false, false, false, false] rfl rfl (any_of HT_.out (by kernel_rfl)) (fun _ _ _ h => h) (Or.inl ⟨by rfl, ?_⟩) ?_ ?_
                          rotate_left
                          · intro w'
                            go_simp
                            with_reducible rfl
                          rotate_left
                          · simp only [Act.put, List.setIfInBounds_toArray, List.set_cons_zero, List.set_cons_succ, i64_w, i32_w]
                            rfl
                          refine pure_ (i := 1) (N := some 129) (v := ?_) (a' := ?_) #[true, true, false, false, false, false, false, false, false] rfl rfl (any_of HT_.out (by kernel_rfl)) (fun _ _ _ h => h) (Or.inl ⟨by rfl, ?_⟩) ?_ ?_
                          rotate_left
                          · intro w'
                            go_simp
                            with_reducible rfl
                          rotate_left
                          · simp only [Act.put, List.setIfInBounds_toArray, List.set_cons_zero, List.set_cons_succ, i64_w, i32_w]
                            rfl
                          refine pure_ (i := 2) (N := some 130) (v := ?_) (a' := ?_) #[true, true, true, false, false, false, false, false, false] rfl rfl (any_of HT_.out (by kernel_rfl)) (fun _ _ _ h => h) (Or.inl ⟨by rfl, ?_⟩) ?_ ?_
                          rotate_left
                          · intro w'
                            go_simp
                            with_reducible rfl
                          rotate_left
                          · simp only [Act.put, List.setIfInBounds_toArray, List.set_cons_zero, List.set_cons_succ, i64_w, i32_w]
                            rfl
                          refine pure_ (i := 4) (N := some 132) (v := ?_) (a' := ?_) #[true, true, true, false, true, false, false, false, false] rfl rfl (any_of HT_.out (by kernel_rfl)) (fun _ _ _ h => h) (Or.inl ⟨by rfl, ?_⟩) ?_ ?_
                          rotate_left
                          · intro w'
                            go_simp
                            with_reducible rfl
                          rotate_left
                          · simp only [Act.put, List.setIfInBounds_toArray, List.set_cons_zero, List.set_cons_succ, i64_w, i32_w]
                            rfl
                          refine pure_ (i := 5) (N := some 133) (v := ?_) (a' := ?_) #[true, true, true, false, true, true, false, false, false] rfl rfl (any_of HT_.out (by kernel_rfl)) (fun _ _ _ h => h) (Or.inl ⟨by rfl, ?_⟩) ?_ ?_
                          rotate_left
                          · intro w'
                            go_simp
                            with_reducible rfl
                          rotate_left
                          · simp only [Act.put, List.setIfInBounds_toArray, List.set_cons_zero, List.set_cons_succ, i64_w, i32_w]
                            rfl
                          refine pure_ (i := 6) (N := some 134) (v := ?_) (a' := ?_) #[true, true, true, false, true, true, true, false, false] rfl rfl (any_of HT_.out (by kernel_rfl)) (fun _ _ _ h => h) (Or.inl ⟨by rfl, ?_⟩) ?_ ?_
                          rotate_left
                          · intro w'
                            go_simp
                            with_reducible rfl
                          rotate_left
                          · simp only [Act.put, List.setIfInBounds_toArray, List.set_cons_zero, List.set_cons_succ, i64_w, i32_w]
                            rfl
                          refine take_ (i := 3) (N := some 131) (v := ?_) (a' := ?_) #[true, true, true, true, true, true, true, false, false] rfl rfl (take_ofW HT_.out HW_.out (by kernel_rfl)) (fun _ _ _ h => h) (Or.inl ⟨by rfl, ?_⟩) hHeld ?_ ?_
                          rotate_left
                          · rintro w' ⟨s0, s1⟩
                            go_simp
                            with_reducible rfl
                          rotate_left
                          · simp only [Act.put, List.setIfInBounds_toArray, List.set_cons_zero, List.set_cons_succ, i64_w, i32_w]
                            rfl
                          refine take_ (i := 7) (N := some 135) (v := ?_) (a' := ?_) #[true, true, true, true, true, true, true, true, false] rfl rfl (take_ofW HT_.out HW_.out (by kernel_rfl)) (fun _ _ _ h => h) (Or.inl ⟨by rfl, ?_⟩) hHeld ?_ ?_
                          rotate_left
                          · rintro w' ⟨s0, s1⟩
                            go_simp
                            with_reducible rfl
                          rotate_left
                          · simp only [Act.put, List.setIfInBounds_toArray, List.set_cons_zero, List.set_cons_succ, i64_w, i32_w]
                            rfl
                          refine pure_ (i := 8) (N := some 136) (v := ?_) (a' := ?_) #[true, true, true, true, true, true, true, true, true] rfl rfl (any_of HT_.out (by kernel_rfl)) (fun _ _ _ h => h) (Or.inl ⟨by rfl, ?_⟩) ?_ ?_
                          rotate_left
                          · intro w'
                            go_simp
                            with_reducible rfl
                          rotate_left
                          · simp only [Act.put, List.setIfInBounds_toArray, List.set_cons_zero, List.set_cons_succ, i64_w, i32_w]
                            rfl
                          refine done_ (done_of HT_.out (by kernel_rfl)) ?_
                          try go_wp2
                          go_ret
                          exact ⟨by first | rfl | (simp [errW_none, errW_some] <;> rfl) | (simp [*, errW_none, errW_some] <;> rfl), by repeat (first | (with_reducible first | exact HB.out | apply below_alloc | apply pw_below_drewN | apply below_drew1 | refine below_set ?_ GE160.out | refine below_set ?_ GE161.out) | exact HB.out)⟩
                        · rw [if_neg c73] at H
                          have c73b0 : decide ((rd x6_6 x11_2) < (rd x5_6 x11_2)) = false := decide_eq_false c73
                          clear c73
                          have H' := Aside0.mk H
                          clear H
                          try go_wp2
                          have n0_ := Aside0.mk (Kd.R_drew HO_5.out)
                          have n1_ := Aside0.mk (Kd.R_drew HO_6.out)
                          have n2_ := Aside0.mk (blk_drew BK160.out)
                          have n3_ := Aside0.mk (blk_drew BK161.out)
                          have n4_ := Aside0.mk (below_drew1 HB.out)
                          clear HO_5
                          clear HO_6
                          clear BK160
                          clear BK161
                          clear HB
                          have HO_5 := n0_
                          have HO_6 := n1_
                          have BK160 := n2_
                          have BK161 := n3_
                          have HB := n4_
                          clear n0_ n1_ n2_ n3_ n4_
                          obtain ⟨Ao79, co79, eo79⟩ := Kd.R_slice HO_5.out
                          (first | subst eo79 | (injection eo79 with f1_ f2_ f3_; have f4_ := f1_.symm; have f5_ := f3_.symm; clear f1_ f2_ f3_; subst f4_; subst f5_))
                          have p200 : 0 ≤ (x11_2 : Int) := of_decide_eq_true (by first | (with_reducible assumption) | assumption)
                          have q200 : x11_2 < (x5_6.length : Int) := of_decide_eq_true (by first | (with_reducible assumption) | assumption)
                          obtain ⟨ad200, e200, hx200_0⟩ := Kd.at_int (Kd.R_reads' HO_5.out).2.2 x11_2 p200 q200
                          cases e200
                          replace p200 := eq_true p200
                          replace q200 := eq_true q200
                          obtain ⟨Ao80, co80, eo80⟩ := Kd.R_slice HO_6.out
                          (first | subst eo80 | (injection eo80 with f1_ f2_ f3_; have f4_ := f1_.symm; have f5_ := f3_.symm; clear f1_ f2_ f3_; subst f4_; subst f5_))
                          have p201 : 0 ≤ (x11_2 : Int) := of_decide_eq_true (by first | (with_reducible assumption) | assumption)
                          have q201 : x11_2 < (x6_6.length : Int) := of_decide_eq_true (by first | (with_reducible assumption) | assumption)
                          obtain ⟨ad201, e201, hx201_0⟩ := Kd.at_int (Kd.R_reads' HO_6.out).2.2 x11_2 p201 q201
                          cases e201
                          replace p201 := eq_true p201
                          replace q201 := eq_true q201
                          refine start_ (n := 9) (S := fun w' => w'.cell? (ad200.add (x11_2).toNat) = some (.int .i64 (rd x5_6 x11_2)) ∧ w'.cell? (ad201.add (x11_2).toNat) = some (.int .i64 (rd x6_6 x11_2))) (ds := []) #[false, false, false, false, false, false, false, false, false] (by kernel_rfl) rfl rfl ⟨hx200_0, hx201_0⟩ (fun hHeld => ?_); refine with_tabW backstepref12_Compare.tab17 backstepref12_Compare.bits17 (fun HT_ HW_ => ?_)
                          generalize wc.drew = w78 at HO_5 HO_6 BK160 BK161 HB hx200_0 hx201_0 hHeld ⊢
                          refine pure_ (i := 0) (N := some 119) (v := ?_) (a' := ?_) #[true, false, false, false, false, false, false, false, false] rfl rfl (any_of HT_.out (by kernel_rfl)) (fun _ _ _ h => h) (Or.inl ⟨by rfl, ?_⟩) ?_ ?_
                          rotate_left
                          · intro w'
                            go_simp
                            with_reducible rfl
                          rotate_left
                          · simp only [Act.put, List.setIfInBounds_toArray, List.set_cons_zero, List.set_cons_succ, i64_w, i32_w]
                            rfl
                          refine pure_ (i := 1) (N := some 120) (v := ?_) (a' := ?_) #[true, true, false, false, false, false, false, false, false] rfl rfl (any_of HT_.out (by kernel_rfl)) (fun _ _ _ h => h) (Or.inl ⟨by rfl, ?_⟩) ?_ ?_
                          rotate_left
                          · intro w'
                            go_simp
                            with_reducible rfl
                          rotate_left
                          · simp only [Act.put, List.setIfInBounds_toArray, List.set_cons_zero, List.set_cons_succ, i64_w, i32_w]
                            rfl
                          refine pure_ (i := 2) (N := some 121) (v := ?_) (a' := ?_) #[true, true, true, false, false, false, false, false, false] rfl rfl (any_of HT_.out (by kernel_rfl)) (fun _ _ _ h => h) (Or.inl ⟨by rfl, ?_⟩) ?_ ?_
                          rotate_left
                          · intro w'
                            go_simp
                            with_reducible rfl
                          rotate_left
                          · simp only [Act.put, List.setIfInBounds_toArray, List.set_cons_zero, List.set_cons_succ, i64_w, i32_w]
                            rfl
                          refine pure_ (i := 4) (N := some 123) (v := ?_) (a' := ?_) #[true, true, true, false, true, false, false, false, false] rfl rfl (any_of HT_.out (by kernel_rfl)) (fun _ _ _ h => h) (Or.inl ⟨by rfl, ?_⟩) ?_ ?_
                          rotate_left
                          · intro w'
                            go_simp
                            with_reducible rfl
                          rotate_left
                          · simp only [Act.put, List.setIfInBounds_toArray, List.set_cons_zero, List.set_cons_succ, i64_w, i32_w]
                            rfl
                          refine pure_ (i := 5) (N := some 124) (v := ?_) (a' := ?_) #[true, true, true, false, true, true, false, false, false] rfl rfl (any_of HT_.out (by kernel_rfl)) (fun _ _ _ h => h) (Or.inl ⟨by rfl, ?_⟩) ?_ ?_
                          rotate_left
                          · intro w'
                            go_simp
                            with_reducible rfl
                          rotate_left
                          · simp only [Act.put, List.setIfInBounds_toArray, List.set_cons_zero, List.set_cons_succ, i64_w, i32_w]
                            rfl
                          refine pure_ (i := 6) (N := some 125) (v := ?_) (a' := ?_) #[true, true, true, false, true, true, true, false, false] rfl rfl (any_of HT_.out (by kernel_rfl)) (fun _ _ _ h => h) (Or.inl ⟨by rfl, ?_⟩) ?_ ?_
                          rotate_left
                          · intro w'
                            go_simp
                            with_reducible rfl
                          rotate_left
                          · simp only [Act.put, List.setIfInBounds_toArray, List.set_cons_zero, List.set_cons_succ, i64_w, i32_w]
                            rfl
                          refine take_ (i := 3) (N := some 122) (v := ?_) (a' := ?_) #[true, true, true, true, true, true, true, false, false] rfl rfl (take_ofW HT_.out HW_.out (by kernel_rfl)) (fun _ _ _ h => h) (Or.inl ⟨by rfl, ?_⟩) hHeld ?_ ?_
                          rotate_left
                          · rintro w' ⟨s0, s1⟩
                            go_simp
                            with_reducible rfl
                          rotate_left
                          · simp only [Act.put, List.setIfInBounds_toArray, List.set_cons_zero, List.set_cons_succ, i64_w, i32_w]
                            rfl
                          refine take_ (i := 7) (N := some 126) (v := ?_) (a' := ?_) #[true, true, true, true, true, true, true, true, false] rfl rfl (take_ofW HT_.out HW_.out (by kernel_rfl)) (fun _ _ _ h => h) (Or.inl ⟨by rfl, ?_⟩) hHeld ?_ ?_
                          rotate_left
                          · rintro w' ⟨s0, s1⟩
                            go_simp
                            with_reducible rfl
                          rotate_left
                          · simp only [Act.put, List.setIfInBounds_toArray, List.set_cons_zero, List.set_cons_succ, i64_w, i32_w]
                            rfl
                          refine pure_ (i := 8) (N := some 127) (v := ?_) (a' := ?_) #[true, true, true, true, true, true, true, true, true] rfl rfl (any_of HT_.out (by kernel_rfl)) (fun _ _ _ h => h) (Or.inl ⟨by rfl, ?_⟩) ?_ ?_
                          rotate_left
                          · intro w'
                            go_simp
                            with_reducible rfl
                          rotate_left
                          · simp only [Act.put, List.setIfInBounds_toArray, List.set_cons_zero, List.set_cons_succ, i64_w, i32_w]
                            rfl
                          refine done_ (done_of HT_.out (by kernel_rfl)) ?_
                          try go_wp2
                          have n0_ := Aside0.mk (Kd.R_drew HO_5.out)
                          have n1_ := Aside0.mk (Kd.R_drew HO_6.out)
                          have n2_ := Aside0.mk (blk_drew BK160.out)
                          have n3_ := Aside0.mk (blk_drew BK161.out)
                          have n4_ := Aside0.mk (below_drew1 HB.out)
                          clear HO_5
                          clear HO_6
                          clear BK160
                          clear BK161
                          clear HB
                          have HO_5 := n0_
                          have HO_6 := n1_
                          have BK160 := n2_
                          have BK161 := n3_
                          have HB := n4_
                          clear n0_ n1_ n2_ n3_ n4_
                          have p202 : 0 ≤ (x11_2 : Int) := of_decide_eq_true (by first | (with_reducible assumption) | assumption)
                          have q202 : x11_2 < (x5_6.length : Int) := of_decide_eq_true (by first | (with_reducible assumption) | assumption)
                          obtain ⟨ad202, e202, hx202_0⟩ := Kd.at_int (Kd.R_reads' HO_5.out).2.2 x11_2 p202 q202
                          obtain rfl : ad200 = ad202 := (by injection e202)
                          replace p202 := eq_true p202
                          replace q202 := eq_true q202
                          have p203 : 0 ≤ (x11_2 : Int) := of_decide_eq_true (by first | (with_reducible assumption) | assumption)
                          have q203 : x11_2 < (x6_6.length : Int) := of_decide_eq_true (by first | (with_reducible assumption) | assumption)
                          obtain ⟨ad203, e203, hx203_0⟩ := Kd.at_int (Kd.R_reads' HO_6.out).2.2 x11_2 p203 q203
                          obtain rfl : ad201 = ad203 := (by injection e203)
                          replace p203 := eq_true p203
                          replace q203 := eq_true q203
                          refine start_ (n := 9) (S := fun w' => w'.cell? (ad200.add (x11_2).toNat) = some (.int .i64 (rd x5_6 x11_2)) ∧ w'.cell? (ad201.add (x11_2).toNat) = some (.int .i64 (rd x6_6 x11_2))) (ds := []) #[false, false, false, false, false, false, false, false, false] (by kernel_rfl) rfl rfl ⟨hx202_0, hx203_0⟩ (fun hHeld => ?_); refine with_tabW backstepref12_Compare.tab19 backstepref12_Compare.bits19 (fun HT_ HW_ => ?_)
                          generalize w78.drew = w81 at HO_5 HO_6 BK160 BK161 HB hx202_0 hx203_0 hHeld ⊢
                          refine pure_ (i := 0) (N := some 128) (v := ?_) (a' := ?_) #[true, false, false, false, false, false, false, false, false] rfl rfl (any_of HT_.out (by kernel_rfl)) (fun _ _ _ h => h) (Or.inl ⟨by rfl, ?_⟩) ?_ ?_
                          rotate_left
                          · intro w'
                            go_simp
                            with_reducible rfl
                          rotate_left
                          · simp only [Act.put, List.setIfInBounds_toArray, List.set_cons_zero, List.set_cons_succ, i64_w, i32_w]
                            rfl
                          refine pure_ (i := 1) (N := some 129) (v := ?_) (a' := ?_) #[true, true, false, false, false, false, false, false, false] rfl rfl (any_of HT_.out (by kernel_rfl)) (fun _ _ _ h => h) (Or.inl ⟨by rfl, ?_⟩) ?_ ?_
                          rotate_left
                          · intro w'
                            go_simp
                            with_reducible rfl
                          rotate_left
                          · simp only [Act.put, List.setIfInBounds_toArray, List.set_cons_zero, List.set_cons_succ, i64_w, i32_w]
                            rfl
                          refine pure_ (i := 2) (N := some 130) (v := ?_) (a' := ?_) #[true, true, true, false, false, false, false, false, false] rfl rfl (any_of HT_.out (by kernel_rfl)) (fun _ _ _ h => h) (Or.inl ⟨by rfl, ?_⟩) ?_ ?_
                          rotate_left
                          · intro w'
                            go_simp
                            with_reducible rfl
                          rotate_left
                          · simp only [Act.put, List.setIfInBounds_toArray, List.set_cons_zero, List.set_cons_succ, i64_w, i32_w]
                            rfl
                          refine pure_ (i := 4) (N := some 132) (v := ?_) (a' := ?_) #[true, true, true, false, true, false, false, false, false] rfl rfl (any_of HT_.out (by kernel_rfl)) (fun _ _ _ h => h) (Or.inl ⟨by rfl, ?_⟩) ?_ ?_
                          rotate_left
                          · intro w'
                            go_simp
                            with_reducible rfl
                          rotate_left
                          · simp only [Act.put, List.setIfInBounds_toArray, List.set_cons_zero, List.set_cons_succ, i64_w, i32_w]
                            rfl
                          refine pure_ (i := 5) (N := some 133) (v := ?_) (a' := ?_) #[true, true, true, false, true, true, false, false, false] rfl rfl (any_of HT_.out (by kernel_rfl)) (fun _ _ _ h => h) (Or.inl ⟨by rfl, ?_⟩) ?_ ?_
                          rotate_left
                          · intro w'
                            go_simp
                            with_reducible rfl
                          rotate_left
                          · simp only [Act.put, List.setIfInBounds_toArray, List.set_cons_zero, List.set_cons_succ, i64_w, i32_w]
                            rfl
                          refine pure_ (i := 6) (N := some 134) (v := ?_) (a' := ?_) #[true, true, true, false, true, true, true, false, false] rfl rfl (any_of HT_.out (by kernel_rfl)) (fun _ _ _ h => h) (Or.inl ⟨by rfl, ?_⟩) ?_ ?_
                          rotate_left
                          · intro w'
                            go_simp
                            with_reducible rfl
                          rotate_left
                          · simp only [Act.put, List.setIfInBounds_toArray, List.set_cons_zero, List.set_cons_succ, i64_w, i32_w]
                            rfl
                          refine take_ (i := 3) (N := some 131) (v := ?_) (a' := ?_) #[true, true, true, true, true, true, true, false, false] rfl rfl (take_ofW HT_.out HW_.out (by kernel_rfl)) (fun _ _ _ h => h) (Or.inl ⟨by rfl, ?_⟩) hHeld ?_ ?_
                          rotate_left
                          · rintro w' ⟨s0, s1⟩
                            go_simp
                            with_reducible rfl
                          rotate_left
                          · simp only [Act.put, List.setIfInBounds_toArray, List.set_cons_zero, List.set_cons_succ, i64_w, i32_w]
                            rfl
                          refine take_ (i := 7) (N := some 135) (v := ?_) (a' := ?_) #[true, true, true, true, true, true, true, true, false] rfl rfl (take_ofW HT_.out HW_.out (by kernel_rfl)) (fun _ _ _ h => h) (Or.inl ⟨by rfl, ?_⟩) hHeld ?_ ?_
                          rotate_left
                          · rintro w' ⟨s0, s1⟩
                            go_simp
                            with_reducible rfl
                          rotate_left
                          · simp only [Act.put, List.setIfInBounds_toArray, List.set_cons_zero, List.set_cons_succ, i64_w, i32_w]
                            rfl
                          refine pure_ (i := 8) (N := some 136) (v := ?_) (a' := ?_) #[true, true, true, true, true, true, true, true, true] rfl rfl (any_of HT_.out (by kernel_rfl)) (fun _ _ _ h => h) (Or.inl ⟨by rfl, ?_⟩) ?_ ?_
                          rotate_left
                          · intro w'
                            go_simp
                            with_reducible rfl
                          rotate_left
                          · simp only [Act.put, List.setIfInBounds_toArray, List.set_cons_zero, List.set_cons_succ, i64_w, i32_w]
                            rfl
                          refine done_ (done_of HT_.out (by kernel_rfl)) ?_
                          try go_wp2
                          go_roundg kj59
                          case measure => have := HJ6.out; have := HK2.out; have := HJ59.out; omega
                          case rel => exact ⟨(wrap64 (x11_2 + 1)), (by first | rfl | (simp; done) | (simp [*]; done)), H', ⟨by have := HJ6.out; have := HK2.out; have := HJ59.out; omega⟩, ⟨by (with_reducible repeat (first | apply Kd.R_alloc | apply Kd.R_drewN | apply Kd.R_drew)); exact HO_5.out⟩, ⟨by (with_reducible repeat (first | apply Kd.R_alloc | apply Kd.R_drewN | apply Kd.R_drew)); exact HO_6.out⟩, ⟨by (with_reducible repeat (first | refine blk_drewN ?_ _ | refine blk_drew ?_ | refine blk_alloc ?_ _)); exact BK160.out⟩, ⟨by (with_reducible repeat (first | refine blk_drewN ?_ _ | refine blk_drew ?_ | refine blk_alloc ?_ _)); exact BK161.out⟩, ⟨by repeat (first | (with_reducible first | exact HB.out | apply below_alloc | apply pw_below_drewN | apply below_drew1 | refine below_set ?_ GE160.out | refine below_set ?_ GE161.out) | exact HB.out)⟩⟩
                    · rw [if_neg c68] at H
                      exact absurd H (by simp)
                  · rw [if_neg c67] at H
                    exact absurd H (by simp)
                · rw [if_neg c66] at H
                  exact absurd H (by simp)
              · replace c65 := Bool.eq_false_iff.mpr c65
                subst c65
                have H1 : (some 0) = some r := by rw [if_neg (show ¬ (false = true) by decide)] at H; exact H
                clear H
                have H := H1
                clear H1
                obtain rfl := Option.some.inj H
                go_wp2
                go_ret
                exact ⟨by first | rfl | (simp [errW_none, errW_some] <;> rfl) | (simp [*, errW_none, errW_some] <;> rfl), by repeat (first | (with_reducible first | exact HB.out | apply below_alloc | apply pw_below_drewN | apply below_drew1 | refine below_set ?_ GE160.out | refine below_set ?_ GE161.out) | exact HB.out)⟩
end Go.Proofs.Ytgcdeablfoomhaa.PAll
end
section
set_option linter.unusedVariables false
set_option linter.unusedSimpArgs false
namespace Go.Proofs.Ytgcdeablfoomhaa.PAll
open Go.RowKit Go.Proofs.YtgcdeablfoomhaaW.PrintWords Go.Proofs.YtgcdeablfoomhaaW.PrintLast Go.Proofs.YtgcdeablfoomhaaW.PrintMore
def sgn (x : Int) : Int := if x < 0 then -1 else if 0 < x then 1 else 0
def cmpLs : List (List Int) → List (List Int) → Int
  | l :: ls, m :: ms => if cmpL l m = 0 then cmpLs ls ms else sgn (cmpL l m)
  | _, _ => 0
def cmpT (w : Int) (n : Nat) (L : List (List Int)) (w' : Int) (n' : Nat) (L' : List (List Int)) : Int :=
  if w = w' then (if n = n' then cmpLs L L' else sgn ((n : Int) - (n' : Int))) else sgn (w - w')
theorem sgn_neg {x : Int} : sgn x < 0 ↔ x < 0 := by unfold sgn; split <;> (try split) <;> omega
theorem sgn_zero {x : Int} : sgn x = 0 ↔ x = 0 := by unfold sgn; split <;> (try split) <;> omega
theorem cmpLs_neg : ∀ (L M : List (List Int)), decide (cmpLs L M < 0) = lessLs L M
  | [], [] => rfl
  | [], _ :: _ => rfl
  | _ :: _, [] => rfl
  | l :: ls, m :: ms => by
    unfold cmpLs lessLs
    by_cases e : cmpL l m = 0
    · rw [if_pos e, if_pos e]; exact cmpLs_neg ls ms
    · rw [if_neg e, if_neg e]; exact decide_eq_decide.2 sgn_neg
theorem cmpT_neg (w : Int) (n : Nat) (L : List (List Int)) (w' : Int) (n' : Nat) (L' : List (List Int)) : decide (cmpT w n L w' n' L' < 0) = lessT w n L w' n' L' := by
  unfold cmpT lessT
  by_cases e : w = w'
  · rw [if_pos e, if_pos e]
    by_cases e2 : n = n'
    · rw [if_pos e2, if_pos e2]; exact cmpLs_neg L L'
    · rw [if_neg e2, if_neg e2]; exact decide_eq_decide.2 (sgn_neg.trans (by omega))
  · rw [if_neg e, if_neg e]; exact decide_eq_decide.2 (sgn_neg.trans (by omega))
def lexc : List Int → List Int → Int
  | x :: xs, y :: ys => if x < y then -1 else if y < x then 1 else lexc xs ys
  | _, _ => 0
/-- What is decided so far, or else c. -/
def lx (X Y : List Int) (c : Int) : Int := if lexc X Y = 0 then c else lexc X Y
theorem lexc_snoc : ∀ {X Y : List Int} (x y : Int), X.length = Y.length → lexc (X ++ [x]) (Y ++ [y]) = lx X Y (sgn (x - y))
  | [], [], x, y, _ => by
    have h0 : lexc [] [] = 0 := rfl
    unfold lx
    rw [if_pos h0, List.nil_append, List.nil_append]
    unfold sgn lexc
    by_cases h1 : x < y
    · rw [if_pos h1, if_pos (show x - y < 0 by omega)]
    · by_cases h2 : y < x
      · rw [if_neg h1, if_pos h2, if_neg (show ¬ x - y < 0 by omega), if_pos (show 0 < x - y by omega)]
      · rw [if_neg h1, if_neg h2, if_neg (show ¬ x - y < 0 by omega), if_neg (show ¬ 0 < x - y by omega)]
        rfl
  | a :: X, b :: Y, x, y, h => by
    have ih := lexc_snoc (X := X) (Y := Y) x y (by simpa using h)
    unfold lx at ih ⊢
    simp only [List.cons_append]
    unfold lexc
    by_cases h1 : a < b
    · rw [if_pos h1, if_pos h1, if_neg (by omega)]
    · rw [if_neg h1, if_neg h1]
      by_cases h2 : b < a
      · rw [if_pos h2, if_pos h2, if_neg (by omega)]
      · rw [if_neg h2, if_neg h2]; exact ih
theorem lx_snoc {X Y : List Int} (x y c : Int) (h : X.length = Y.length) : lx (X ++ [x]) (Y ++ [y]) c = lx X Y (if x = y then c else sgn (x - y)) := by
  have h1 := lexc_snoc x y h
  unfold lx at *
  rw [h1]
  by_cases e : lexc X Y = 0
  · rw [if_pos e, if_pos e]
    by_cases e2 : x = y
    · rw [if_pos (sgn_zero.2 (by omega)), if_pos e2]
    · rw [if_neg (fun h => e2 (by have := sgn_zero.1 h; omega)), if_neg e2]
  · rw [if_neg e, if_neg e, if_neg e]
theorem lexc_l2 (X Y : List Int) (h : X.length = Y.length) (hb : X.length ≤ 9000000000000) : ∀ (m i : Nat), i + m = X.length → ∃ k, backstepref12_Compare.l2 k X Y (i : Int) = some (lexc (X.drop i) (Y.drop i))
  | 0, i, hi => ⟨2, by
    unfold backstepref12_Compare.l2
    rw [if_neg (by omega), List.drop_eq_nil_of_le (by omega), List.drop_eq_nil_of_le (by omega)]
    unfold backstepref12_Compare.j6
    rw [if_neg (by simp)]; rfl⟩
  | m + 1, i, hi => by
    have h1 : i < X.length := by omega
    have h2 : i < Y.length := by omega
    obtain ⟨k, hk⟩ := lexc_l2 X Y h hb m (i + 1) (by omega)
    refine ⟨k + 2, ?_⟩
    unfold backstepref12_Compare.l2
    rw [if_pos (by omega), decide_eq_true (show (i : Int) < (Y.length : Int) by omega)]
    unfold backstepref12_Compare.j6
    rw [if_pos rfl, if_pos (by omega), if_pos (by omega), if_pos (by omega), rd_at h1, rd_at h2, List.drop_eq_getElem_cons h1, List.drop_eq_getElem_cons h2, lexc, wrap64_of' (by omega) (by omega), cast_succ, hk]
    by_cases c1 : X[i] < Y[i]
    · rw [if_pos c1, if_pos c1]
    · rw [if_neg c1, if_neg c1]
      by_cases c2 : X[i] > Y[i]
      · rw [if_pos c2, if_pos c2]
      · rw [if_neg c2, if_neg c2]
theorem lexc_j4 (X Y : List Int) (h : X.length = Y.length) (hb : X.length ≤ 9000000000000) : ∃ k, backstepref12_Compare.j4 k X Y = some (lexc X Y) := by
  obtain ⟨k, hk⟩ := lexc_l2 X Y h hb X.length 0 (by omega)
  refine ⟨k + 1, ?_⟩
  unfold backstepref12_Compare.j4
  simpa using hk
/-- The ranks of two lists, one by one; then c. -/
def cz : List Int → List Int → Int → Int
  | x :: xs, y :: ys, c => if rankO x = rankO y then cz xs ys c else sgn (rankO x - rankO y)
  | _, _, c => c
theorem cz_cmpR : ∀ {a b : List Int} (c : Int), a.length = b.length → cz a b c = if cmpR a b = 0 then c else sgn (cmpR a b)
  | [], [], c, _ => by unfold cz cmpR; rw [if_pos rfl]
  | x :: xs, y :: ys, c, h => by
    have ih := cz_cmpR (a := xs) (b := ys) c (by simpa using h)
    unfold cz cmpR
    by_cases e : x = y
    · rw [if_pos (by rw [e]), if_pos e]; exact ih
    · have e2 : rankO x ≠ rankO y := fun h => e (rankO_inj h)
      rw [if_neg e2, if_neg e, if_neg (by omega)]
def szL (L : List (List Int)) : Nat := (L.map fun l => l.length + 1).sum
theorem szL_cons (l : List Int) (r : List (List Int)) : szL (l :: r) = l.length + 1 + szL r := by simp [szL]
/-- One more list of each: the lengths; the ranks; if the lengths are alike, on with R. -/
theorem cmp_l1 (L M : List (List Int)) (i : Nat) (hi : i < L.length) (hi' : i < M.length) (R : Int) (hin : L[i].all inR = true) (hin2 : M[i].all inR = true) (N : Nat) (hN : N ≤ 1000000000000) (hb1 : L[i].length ≤ 1000000000000) (hb2 : M[i].length ≤ 1000000000000)
    (hr : ∀ X Y : List Int, X.length = Y.length → X.length + szL (L.drop (i + 1)) ≤ N → Y.length + szL (M.drop (i + 1)) ≤ N → ∃ k, backstepref12_Compare.l0 k X Y L M (wrap64 ((i : Int) + 1)) = some (lx X Y R)) :
    ∀ (m j : Nat) (X Y : List Int), j + m = min L[i].length M[i].length → X.length = Y.length → (L[i].length = M[i].length ∨ lexc X Y ≠ 0) → X.length + (L[i].length - j) + szL (L.drop (i + 1)) ≤ N → Y.length + (M[i].length - j) + szL (M.drop (i + 1)) ≤ N →
      ∃ k, backstepref12_Compare.l1 k X Y L M (i : Int) (j : Int) = some (lx X Y (cz (L[i].drop j) (M[i].drop j) R))
  | 0, j, X, Y, hj, hl, he, hx, hy => by
    have hfl : (if (j : Int) < (L[i].length : Int) then decide ((j : Int) < (M[i].length : Int)) else false) = false := by
      split
      · exact decide_eq_false (by omega)
      · rfl
    by_cases e : L[i].length = M[i].length
    · obtain ⟨k, hk⟩ := hr X Y hl (by omega) (by omega)
      refine ⟨k + 2, ?_⟩
      unfold backstepref12_Compare.l1
      rw [if_pos (by omega), if_pos (by omega), rdL_at hi, rdL_at hi', if_neg (by omega)]
      unfold backstepref12_Compare.j3
      rw [if_neg (by simp), if_pos (by omega), if_pos (by omega), if_pos (by omega), rdL_at hi, rdL_at hi', if_pos (by omega), hk, List.drop_eq_nil_of_le (by omega), List.drop_eq_nil_of_le (by omega)]
      rfl
    · obtain ⟨k, hk⟩ := lexc_j4 X Y hl (by omega)
      have hne := he.resolve_left e
      have hres : lx X Y (cz (L[i].drop j) (M[i].drop j) R) = lexc X Y := by unfold lx; rw [if_neg hne]
      rw [hres]
      refine ⟨k + 2, ?_⟩
      unfold backstepref12_Compare.l1
      rw [if_pos (by omega), if_pos (by omega), rdL_at hi, rdL_at hi']
      by_cases c : (j : Int) < (L[i].length : Int)
      · rw [if_pos c, if_pos (by omega), decide_eq_false (by omega)]
        unfold backstepref12_Compare.j3
        rw [if_neg (by simp), if_pos (by omega), if_pos (by omega), if_pos (by omega), rdL_at hi, rdL_at hi', if_neg (by omega), hk]
      · rw [if_neg c]
        unfold backstepref12_Compare.j3
        rw [if_neg (by simp), if_pos (by omega), if_pos (by omega), if_pos (by omega), rdL_at hi, rdL_at hi', if_neg (by omega), hk]
  | m + 1, j, X, Y, hj, hl, he, hx, hy => by
    have h1 : j < L[i].length := by omega
    have h2 : j < M[i].length := by omega
    have q1 := inR_iff.1 (List.all_eq_true.1 hin _ (List.getElem_mem h1))
    have q2 := inR_iff.1 (List.all_eq_true.1 hin2 _ (List.getElem_mem h2))
    obtain ⟨k, hk⟩ := cmp_l1 L M i hi hi' R hin hin2 N hN hb1 hb2 hr m (j + 1) (X ++ [rankO L[i][j]]) (Y ++ [rankO M[i][j]]) (by omega) (by simp [hl]) (by
      rcases he with h | h
      · exact .inl h
      · refine .inr ?_
        rw [lexc_snoc _ _ hl]
        unfold lx
        rw [if_neg h]; exact h) (by simp; omega) (by simp; omega)
    refine ⟨k + 2, ?_⟩
    unfold backstepref12_Compare.l1
    rw [if_pos (by omega), if_pos (by omega), rdL_at hi, rdL_at hi', if_pos (by omega), if_pos (by omega), decide_eq_true (show (j : Int) < (M[i].length : Int) by omega)]
    unfold backstepref12_Compare.j3
    rw [if_pos rfl, if_pos (by omega), if_pos (by omega), if_pos (by omega), rdL_at hi, rdL_at hi', if_pos (by omega), rd_at h1, rd_at h2, refrank_f q1.2 q1.1]
    simp only [Option.bind_some]
    rw [if_pos (by omega), if_pos (by omega), if_pos (by omega), refrank_f q2.2 q2.1]
    simp only [Option.bind_some]
    rw [if_pos (by omega), wrap64_of' (by omega) (by omega), cast_succ, hk, lx_snoc _ _ _ hl, List.drop_eq_getElem_cons h1, List.drop_eq_getElem_cons h2, cz]
theorem cmp_l0 (L M : List (List Int)) (hin : L.all (fun l => l.all inR) = true) (hin2 : M.all (fun l => l.all inR) = true) (N : Nat) (hN : N ≤ 1000000000000) (hLl : L.length ≤ 1000000000000) :
    ∀ (m i : Nat) (X Y : List Int), i + m = min L.length M.length → X.length = Y.length → X.length + szL (L.drop i) ≤ N → Y.length + szL (M.drop i) ≤ N → ∃ k, backstepref12_Compare.l0 k X Y L M (i : Int) = some (lx X Y (cmpLs (L.drop i) (M.drop i)))
  | 0, i, X, Y, hi, hl, hx, hy => by
    obtain ⟨k, hk⟩ := lexc_j4 X Y hl (by omega)
    have hc : cmpLs (L.drop i) (M.drop i) = 0 := by
      by_cases c : L.length ≤ i
      · rw [List.drop_eq_nil_of_le c]; rfl
      · rw [show M.drop i = [] from List.drop_eq_nil_of_le (by omega)]
        cases L.drop i <;> rfl
    have hres : lx X Y (cmpLs (L.drop i) (M.drop i)) = lexc X Y := by
      rw [hc]; unfold lx
      split
      · rename_i h; exact h.symm
      · rfl
    rw [hres]
    refine ⟨k + 2, ?_⟩
    unfold backstepref12_Compare.l0
    by_cases c : (i : Int) < (L.length : Int)
    · rw [if_pos c, decide_eq_false (by omega)]
      unfold backstepref12_Compare.j1
      rw [if_neg (by simp), hk]
    · rw [if_neg c]
      unfold backstepref12_Compare.j1
      rw [if_neg (by simp), hk]
  | m + 1, i, X, Y, hi, hl, hx, hy => by
    have h1 : i < L.length := by omega
    have h2 : i < M.length := by omega
    rw [List.drop_eq_getElem_cons h1, szL_cons] at hx
    rw [List.drop_eq_getElem_cons h2, szL_cons] at hy
    have hlm : ∀ (j : Nat) (a : List (List Int)), j ≤ a.length → (a.drop j).length ≤ szL (a.drop j) := fun j a _ => by
      generalize a.drop j = b
      induction b with
      | nil => simp [szL]
      | cons x r ih => rw [szL_cons, List.length_cons]; omega
    have hs1 := hlm (i + 1) L (by omega)
    have hs2 := hlm (i + 1) M (by omega)
    rw [List.length_drop] at hs1 hs2
    obtain ⟨k, hk⟩ := cmp_l1 L M i h1 h2 (cmpLs (L.drop (i + 1)) (M.drop (i + 1))) (List.all_eq_true.1 hin _ (List.getElem_mem h1)) (List.all_eq_true.1 hin2 _ (List.getElem_mem h2)) N hN (by omega) (by omega) (fun X Y hl hx hy => by
      rw [wrap64_of' (by omega) (by omega), cast_succ]
      exact cmp_l0 L M hin hin2 N hN hLl m (i + 1) X Y (by omega) hl hx hy) (min L[i].length M[i].length) 0 (X ++ [(L[i].length : Int)]) (Y ++ [(M[i].length : Int)]) (by omega) (by simp [hl]) (by
        by_cases e : L[i].length = M[i].length
        · exact .inl e
        · refine .inr ?_
          rw [lexc_snoc _ _ hl]
          unfold lx
          split
          · rw [Ne, sgn_zero]; omega
          · rename_i h; exact h) (by simp; omega) (by simp; omega)
    refine ⟨k + 2, ?_⟩
    unfold backstepref12_Compare.l0
    rw [if_pos (by omega), decide_eq_true (show (i : Int) < (M.length : Int) by omega)]
    unfold backstepref12_Compare.j1
    rw [if_pos rfl, if_pos (by omega), if_pos (by omega), if_pos (by omega), if_pos (by omega), if_pos (by omega), rdL_at h1, rdL_at h2, show (0 : Int) = ((0 : Nat) : Int) from rfl, hk, lx_snoc _ _ _ hl, List.drop_eq_getElem_cons h1, List.drop_eq_getElem_cons h2, cmpLs, List.drop_zero, List.drop_zero]
    congr 2
    unfold cmpL
    by_cases e : L[i].length = M[i].length
    · rw [if_pos (by omega), if_pos e, cz_cmpR _ e]
    · rw [if_neg (by omega), if_neg e, if_neg (by omega)]
theorem up_refweight {l0 : List (List Int)} {l1 l2 : List Int} {r : Int} {k : Nat} (h : backstepref12_Weight.f k l0 l1 l2 = some r) : ∀ d, backstepref12_Weight.f (k + d) l0 l1 l2 = some r
  | 0 => h
  | d + 1 => backstepref12_Weight.mono _ _ _ _ _ (up_refweight h d)
theorem up_reflists {l0 : List (List Int)} {l1 l2 : List Int} {r : List (List Int)} {k : Nat} (h : backstepref12_lists.f k l0 l1 l2 = some r) : ∀ d, backstepref12_lists.f (k + d) l0 l1 l2 = some r
  | 0 => h
  | d + 1 => backstepref12_lists.mono _ _ _ _ _ (up_reflists h d)
theorem up_cmp_l0 {X Y : List Int} {L M : List (List Int)} {i r : Int} {k : Nat} (h : backstepref12_Compare.l0 k X Y L M i = some r) : ∀ d, backstepref12_Compare.l0 (k + d) X Y L M i = some r
  | 0 => h
  | d + 1 => (backstepref12_Compare.mono_l _).2.2.2.1 _ _ _ _ _ _ (up_cmp_l0 h d)
theorem compareT_f (l0 : List (List Int)) (l1 l2 : List Int) (m0 : List (List Int)) (m1 m2 : List Int) (hin : (l0 ++ [l1, l2]).all (fun l => l.all inR) = true) (hin2 : (m0 ++ [m1, m2]).all (fun l => l.all inR) = true)
    (hs : szL (l0 ++ [l1, l2]) ≤ 100000000000) (hs2 : szL (m0 ++ [m1, m2]) ≤ 100000000000) :
    ∃ k, backstepref12_Compare.f k l0 l1 l2 m0 m1 m2 = some (cmpT (wtW 0 (l0 ++ [l1, l2])) l0.length (l0 ++ [l1, l2]) (wtW 0 (m0 ++ [m1, m2])) m0.length (m0 ++ [m1, m2])) := by
  have hlen : ∀ a : List (List Int), a.length ≤ szL a ∧ ∀ l ∈ a, l.length ≤ szL a := fun a => by
    induction a with
    | nil => exact ⟨by simp [szL], by simp⟩
    | cons x r ih =>
      rw [szL_cons]
      refine ⟨by rw [List.length_cons]; omega, fun l hl => ?_⟩
      rcases List.mem_cons.1 hl with rfl | hl
      · omega
      · have := ih.2 l hl; omega
  have g1 := hlen (l0 ++ [l1, l2])
  have g2 := hlen (m0 ++ [m1, m2])
  have b1 : l0.length ≤ 100000000000 := by have := g1.1; simp at this; omega
  have b2 : m0.length ≤ 100000000000 := by have := g2.1; simp at this; omega
  obtain ⟨k1, hk1⟩ := refweight_f l0 l1 l2 (by omega) hin (fun l hl => by have := g1.2 l hl; omega)
  obtain ⟨k2, hk2⟩ := refweight_f m0 m1 m2 (by omega) hin2 (fun l hl => by have := g2.2 l hl; omega)
  obtain ⟨k3, hk3⟩ := reflists_f l0 l1 l2 (by omega)
  obtain ⟨k4, hk4⟩ := reflists_f m0 m1 m2 (by omega)
  obtain ⟨k5, hk5⟩ := cmp_l0 (l0 ++ [l1, l2]) (m0 ++ [m1, m2]) hin hin2 1000000000000 (by omega) (by omega) (min (l0 ++ [l1, l2]).length (m0 ++ [m1, m2]).length) 0 [wtW 0 (l0 ++ [l1, l2]), (l0.length : Int)] [wtW 0 (m0 ++ [m1, m2]), (m0.length : Int)] (by omega) rfl (by simp; omega) (by simp; omega)
  refine ⟨k1 + (k2 + (k3 + (k4 + k5))), ?_⟩
  unfold backstepref12_Compare.f
  rw [up_refweight hk1, show k1 + (k2 + (k3 + (k4 + k5))) = k2 + (k1 + (k3 + (k4 + k5))) by omega, up_refweight hk2, show k2 + (k1 + (k3 + (k4 + k5))) = k3 + (k1 + (k2 + (k4 + k5))) by omega, up_reflists hk3, show k3 + (k1 + (k2 + (k4 + k5))) = k4 + (k1 + (k2 + (k3 + k5))) by omega, up_reflists hk4]
  simp only [Option.bind_some]
  rw [show k4 + (k1 + (k2 + (k3 + k5))) = k5 + (k1 + (k2 + (k3 + k4))) by omega]
  have h := up_cmp_l0 hk5 (k1 + (k2 + (k3 + k4)))
  rw [show ((0 : Nat) : Int) = 0 from rfl] at h
  rw [h, List.drop_zero, List.drop_zero]
  congr 1
  have e1 : ∀ x y : Int, lexc [x] [y] = sgn (x - y) := fun x y => by
    have h := lexc_snoc (X := []) (Y := []) x y rfl
    exact h
  have e2 : ∀ x y a b : Int, lexc [x, a] [y, b] = if sgn (x - y) = 0 then sgn (a - b) else sgn (x - y) := fun x y a b => by
    have h := lexc_snoc (X := [x]) (Y := [y]) a b rfl
    unfold lx at h
    rw [e1] at h
    exact h
  unfold cmpT lx
  rw [e2]
  by_cases e : wtW 0 (l0 ++ [l1, l2]) = wtW 0 (m0 ++ [m1, m2])
  · rw [if_pos e, if_pos (sgn_zero.2 (by omega))]
    by_cases e3 : l0.length = m0.length
    · rw [if_pos e3, if_pos (sgn_zero.2 (by omega))]
    · rw [if_neg e3, if_neg (fun h => by have := sgn_zero.1 h; omega)]
  · have hs : sgn (wtW 0 (l0 ++ [l1, l2]) - wtW 0 (m0 ++ [m1, m2])) ≠ 0 := fun h => by have := sgn_zero.1 h; omega
    rw [if_neg e, if_neg hs, if_neg hs]
end Go.Proofs.Ytgcdeablfoomhaa.PAll
end
section
set_option linter.unusedVariables false
set_option linter.unusedSimpArgs false
namespace Go.Proofs.Ytgcdeablfoomhaa.PAll
open Go.RowKit Go.Proofs.YtgcdeablfoomhaaW.PrintWords Go.Proofs.YtgcdeablfoomhaaW.PrintLast Go.Proofs.YtgcdeablfoomhaaW.PrintMore
/-- A state that is read: its three slices. -/
structure SR (w : World) (A0 : Option Addr) (c0 : Nat) (l0 : List (List Int)) (A1 : Option Addr) (c1 : Nat) (l1 : List Int) (A2 : Option Addr) (c2 : Nat) (l2 : List Int) : Prop where
  r0 : Kd.C (Kd.slice 3 (Kd.int .i64)) w A0 l0.length l0
  h0 : l0.length ≤ c0
  r1 : Kd.C (Kd.int .i64) w A1 l1.length l1
  h1 : l1.length ≤ c1
  r2 : Kd.C (Kd.int .i64) w A2 l2.length l2
  h2 : l2.length ≤ c2
section
variable {w w' : World} {A0 A1 A2 : Option Addr} {c0 c1 c2 : Nat} {l0 : List (List Int)} {l1 l2 : List Int}
theorem SR.below (h : SR w A0 c0 l0 A1 c1 l1 A2 c2 l2) (hb : Below w.heap.size w w') : SR w' A0 c0 l0 A1 c1 l1 A2 c2 l2 := ⟨Kd.C_below h.r0 hb, h.h0, Kd.C_below h.r1 hb, h.h1, Kd.C_below h.r2 hb, h.h2⟩
theorem C_lens {A : Option Addr} {L : List (List Int)} (h : Kd.C (Kd.slice 3 (Kd.int .i64)) w A L.length L) : ∀ l ∈ L, l.length ≤ 9223372036854775807 := by
  intro l hl
  obtain ⟨j, hj, rfl⟩ := List.mem_iff_getElem.1 hl
  obtain ⟨ad, e, hc⟩ := h.2.2 (by omega)
  obtain ⟨c, hs, ⟨A', c', _, _, hk⟩, _⟩ := hc j _ (List.getElem?_eq_getElem hj)
  exact hk.2.1
theorem SR.lens (h : SR w A0 c0 l0 A1 c1 l1 A2 c2 l2) : ∀ l ∈ l0 ++ [l1, l2], l.length ≤ 9223372036854775807 := by
  intro l hl
  rcases List.mem_append.1 hl with hl | hl
  · exact C_lens h.r0 l hl
  · simp at hl
    rcases hl with rfl | rfl
    · exact h.r1.2.1
    · exact h.r2.2.1
theorem fits_calls (h : SR w A0 c0 l0 A1 c1 l1 A2 c2 l2) (hl : l0.length ≤ 5864062014634) : Calls Try.prog 19 #[.agg #[.slice A0 l0.length c0, .slice A1 l1.length c1, .slice A2 l2.length c2]] w fun e w' => e = .returned (.bool (fitsL (l0 ++ [l1, l2]))) ∧ Below w.heap.size w w' := by
  obtain ⟨k, hk⟩ := fits_f l0 l1 l2 hl h.lens
  exact backstepref12_Fits.calls k A0 c0 l0 A1 c1 l1 A2 c2 l2 _ w h.r0 h.h0 h.r1 h.h1 h.r2 h.h2 hk
end
end Go.Proofs.Ytgcdeablfoomhaa.PAll
end
section
set_option linter.unusedVariables false
set_option linter.unusedSimpArgs false
namespace Go.Proofs.Ytgcdeablfoomhaa.PAll
open Go.RowKit Go.Proofs.YtgcdeablfoomhaaW.PrintWords Go.Proofs.YtgcdeablfoomhaaW.PrintLast Go.Proofs.YtgcdeablfoomhaaW.PrintMore
section
variable {w w' : World} {A0 A1 A2 : Option Addr} {c0 c1 c2 : Nat} {l0 : List (List Int)} {l1 l2 : List Int} {A0' A1' A2' : Option Addr} {c0' c1' c2' : Nat} {m0 : List (List Int)} {m1 m2 : List Int}
theorem less_callsL (h : SR w A0 c0 l0 A1 c1 l1 A2 c2 l2) (h' : SR w A0' c0' m0 A1' c1' m1 A2' c2' m2) (hl : l0.length ≤ 5864062014634) (hl' : m0.length ≤ 5864062014634) (hf : fitsL (l0 ++ [l1, l2]) = true) (hf' : fitsL (m0 ++ [m1, m2]) = true) :
    Calls Try.prog 24 #[.agg #[.slice A0 l0.length c0, .slice A1 l1.length c1, .slice A2 l2.length c2], .agg #[.slice A0' m0.length c0', .slice A1' m1.length c1', .slice A2' m2.length c2']] w fun e w' => e = .returned (.bool (lessT (wtW 0 (l0 ++ [l1, l2])) l0.length (l0 ++ [l1, l2]) (wtW 0 (m0 ++ [m1, m2])) m0.length (m0 ++ [m1, m2]))) ∧ Below w.heap.size w w' := by
  unfold fitsL at hf hf'
  rw [Bool.and_eq_true] at hf hf'
  obtain ⟨k, hk⟩ := less_f l0 l1 l2 m0 m1 m2 hl hl' hf.1 hf'.1 h.lens h'.lens
  exact enumerate_Less.calls k A0 c0 l0 A1 c1 l1 A2 c2 l2 A0' c0' m0 A1' c1' m1 A2' c2' m2 _ w h.r0 h.h0 h.r1 h.h1 h.r2 h.h2 h'.r0 h'.h0 h'.r1 h'.h1 h'.r2 h'.h2 hk
theorem compare_calls (h : SR w A0 c0 l0 A1 c1 l1 A2 c2 l2) (h' : SR w A0' c0' m0 A1' c1' m1 A2' c2' m2) (hf : (l0 ++ [l1, l2]).all (fun l => l.all inR) = true) (hf' : (m0 ++ [m1, m2]).all (fun l => l.all inR) = true) (hs : szL (l0 ++ [l1, l2]) ≤ 100000000000) (hs2 : szL (m0 ++ [m1, m2]) ≤ 100000000000) :
    Calls Try.prog 15 #[.agg #[.slice A0 l0.length c0, .slice A1 l1.length c1, .slice A2 l2.length c2], .agg #[.slice A0' m0.length c0', .slice A1' m1.length c1', .slice A2' m2.length c2']] w fun e w' => e = .returned (.int .i64 (cmpT (wtW 0 (l0 ++ [l1, l2])) l0.length (l0 ++ [l1, l2]) (wtW 0 (m0 ++ [m1, m2])) m0.length (m0 ++ [m1, m2]))) ∧ Below w.heap.size w w' := by
  obtain ⟨k, hk⟩ := compareT_f l0 l1 l2 m0 m1 m2 hf hf' hs hs2
  exact backstepref12_Compare.calls k A0 c0 l0 A1 c1 l1 A2 c2 l2 A0' c0' m0 A1' c1' m1 A2' c2' m2 _ w h.r0 h.h0 h.r1 h.h1 h.r2 h.h2 h'.r0 h'.h0 h'.r1 h'.h1 h'.r2 h'.h2 hk
theorem fits_in {L : List (List Int)} (h : fitsL L = true) : L.all (fun l => l.all inR) = true := by unfold fitsL at h; rw [Bool.and_eq_true] at h; exact h.1
end
theorem tab8_3 : rtab .any (opsOf Try.f8 3) = (true, [([], []), ([], []), ([0, 1], [0, 1]), ([], []), ([], []), ([3, 4, 2], [3, 4]), ([5], [5]), ([2, 6], [2, 6]), ([7, 5, 0, 1, 2, 3, 4, 5, 6, 7], [7])]) := by kernel_rfl
theorem bits8_3 : waitsOk (true, [([], []), ([], []), ([0, 1], [0, 1]), ([], []), ([], []), ([3, 4, 2], [3, 4]), ([5], [5]), ([2, 6], [2, 6]), ([7, 5, 0, 1, 2, 3, 4, 5, 6, 7], [7])]).2 [0, 0, 3, 0, 0, 31, 63, 127, 255] = true := by decide +kernel
set_option maxRecDepth 100000 in
set_option maxHeartbeats 16000000 in
theorem EnumerateLess_calls (Aa0 : Option Addr) (ca0 : Nat) (a0 : List (List Int)) (Aa1 : Option Addr) (ca1 : Nat) (a1 : List Int) (Aa2 : Option Addr) (ca2 : Nat) (a2 : List Int) (Ab0 : Option Addr) (cb0 : Nat) (b0 : List (List Int)) (Ab1 : Option Addr) (cb1 : Nat) (b1 : List Int) (Ab2 : Option Addr) (cb2 : Nat) (b2 : List Int) (W : World) (hra0 : Kd.C (Kd.slice 3 (Kd.int .i64)) W Aa0 a0.length a0) (hca0 : a0.length ≤ ca0) (hra1 : Kd.C (Kd.int .i64) W Aa1 a1.length a1) (hca1 : a1.length ≤ ca1) (hra2 : Kd.C (Kd.int .i64) W Aa2 a2.length a2) (hca2 : a2.length ≤ ca2) (hrb0 : Kd.C (Kd.slice 3 (Kd.int .i64)) W Ab0 b0.length b0) (hcb0 : b0.length ≤ cb0) (hrb1 : Kd.C (Kd.int .i64) W Ab1 b1.length b1) (hcb1 : b1.length ≤ cb1) (hrb2 : Kd.C (Kd.int .i64) W Ab2 b2.length b2) (hcb2 : b2.length ≤ cb2) (hla : a0.length ≤ 5864062014634) (hlb : b0.length ≤ 5864062014634) (hza : szL (a0 ++ [a1, a2]) ≤ 100000000000) (hzb : szL (b0 ++ [b1, b2]) ≤ 100000000000) :
    Calls Try.prog 8 #[.agg #[.slice Aa0 a0.length ca0, .slice Aa1 a1.length ca1, .slice Aa2 a2.length ca2], .agg #[.slice Ab0 b0.length cb0, .slice Ab1 b1.length cb1, .slice Ab2 b2.length cb2]] W fun e w' => e = .returned (.bool true) ∧ Below W.heap.size W w' := by
  obtain ⟨B1, hB1⟩ : ∃ b, b = W.heap.size := ⟨_, rfl⟩
  obtain ⟨B2, hB2⟩ : ∃ b, b = W.heap.size + 1 := ⟨_, rfl⟩
  have hsa0 := SR.mk hra0 hca0 hra1 hca1 hra2 hca2
  have hsb0 := SR.mk hrb0 hcb0 hrb1 hcb1 hrb2 hcb2
  have HA0 := Lib.hid hsa0
  have HB0 := Lib.hid hsb0
  clear hsa0 hsb0 hra0 hca0 hra1 hca1 hra2 hca2 hrb0 hcb0 hrb1 hcb1 hrb2 hcb2
  go_enter Try.func8, Try.ntmps8
  go_wp2_with (fail)
  obtain ⟨W1, hW1⟩ : ∃ W1, W1 = (W.alloc (.cells #[.slice Aa0 a0.length ca0, .slice Aa1 a1.length ca1, .slice Aa2 a2.length ca2] 35)).alloc (.cells #[.slice Ab0 b0.length cb0, .slice Ab1 b1.length cb1, .slice Ab2 b2.length cb2] 35) := ⟨_, rfl⟩
  have n0 : W1.heap[W.heap.size]? = some (.cells #[.slice Aa0 a0.length ca0, .slice Aa1 a1.length ca1, .slice Aa2 a2.length ca2] 35 (0, 0)) := by rw [hW1]; exact blk_alloc (World.alloc_heap_new W _) _
  have n1 : W1.heap[W.heap.size + 1]? = some (.cells #[.slice Ab0 b0.length cb0, .slice Ab1 b1.length cb1, .slice Ab2 b2.length cb2] 35 (0, 0)) := by
    have h9 := World.alloc_heap_new (W.alloc (.cells #[.slice Aa0 a0.length ca0, .slice Aa1 a1.length ca1, .slice Aa2 a2.length ca2] 35)) (.cells #[.slice Ab0 b0.length cb0, .slice Ab1 b1.length cb1, .slice Ab2 b2.length cb2] 35)
    rw [hW1]; rwa [World.size_alloc] at h9
  have hb : Below W.heap.size W W1 := by rw [hW1]; exact ((Below.refl _ _).alloc (Nat.le_refl _) _).alloc (by simp) _
  rw [← hB2] at n1
  rw [← hB1] at n0
  rw [← hW1, ← hB2, ← hB1]
  have HBW1 := Lib.hid hb
  have HSa := Lib.hid (HA0.out.below hb)
  have HSb := Lib.hid (HB0.out.below hb)
  have hs : ∀ w', Below W1.heap.size W1 w' → w'.cell? ⟨B1, 0, none⟩ = some (.slice Aa0 a0.length ca0) ∧ w'.cell? ⟨B1, 1, none⟩ = some (.slice Aa1 a1.length ca1) ∧ w'.cell? ⟨B1, 2, none⟩ = some (.slice Aa2 a2.length ca2) ∧ w'.cell? ⟨B2, 0, none⟩ = some (.slice Ab0 b0.length cb0) ∧ w'.cell? ⟨B2, 1, none⟩ = some (.slice Ab1 b1.length cb1) ∧ w'.cell? ⟨B2, 2, none⟩ = some (.slice Ab2 b2.length cb2) := fun w' hb => by
    have e0 : BoxA w' B1 (.slice Aa0 a0.length ca0) (.slice Aa1 a1.length ca1) (.slice Aa2 a2.length ca2) := (show BoxA W1 B1 (.slice Aa0 a0.length ca0) (.slice Aa1 a1.length ca1) (.slice Aa2 a2.length ca2) from n0).below hb (Array.getElem?_eq_some_iff.1 n0).1
    have e1 : BoxA w' B2 (.slice Ab0 b0.length cb0) (.slice Ab1 b1.length cb1) (.slice Ab2 b2.length cb2) := (show BoxA W1 B2 (.slice Ab0 b0.length cb0) (.slice Ab1 b1.length cb1) (.slice Ab2 b2.length cb2) from n1).below hb (Array.getElem?_eq_some_iff.1 n1).1
    exact ⟨e0.c0, e0.c1, e0.c2, e1.c0, e1.c1, e1.c2⟩
  have HS := Lib.hid hs
  have HB1_ : Hid (Below W1.heap.size W1 W1) := Lib.hid (Below.refl _ _)
  clear hW1 n0 n1 hb hB1 hB2 hs HA0 HB0
  refine (awake_calls _).mono ?_
  rintro e w2 ⟨rfl, hb⟩
  have HB2 := Lib.hid (HB1_.out.trans (hb.mono HB1_.out.size))
  clear hb HB1_
  obtain ⟨x0, x1, x2, x3, x4, x5⟩ := HS.out _ HB2.out
  go_wp2_with (fail)
  refine (fits_calls (HSa.out.below HB2.out) hla).mono ?_
  rintro e w3 ⟨rfl, hb⟩
  have HB3 := Lib.hid (HB2.out.trans (hb.mono HB2.out.size))
  clear hb x0 x1 x2 x3 x4 x5
  cases hfa : fitsL (a0 ++ [a1, a2]) with
  | false =>
    clear hfa
    go_wp2_with (fail)
    refine (awake_calls _).mono ?_
    rintro e wz ⟨rfl, hb⟩
    have HBZ := Lib.hid (HB3.out.trans (hb.mono HB3.out.size))
    clear hb
    go_wp2
    go_ret
    exact ⟨rfl, HBW1.out.trans (HBZ.out.mono HBW1.out.size)⟩
  | true =>
    have HFa := Lib.hid hfa
    clear hfa
    obtain ⟨x0, x1, x2, x3, x4, x5⟩ := HS.out _ HB3.out
    go_wp2_with (fail)
    refine (fits_calls (HSb.out.below HB3.out) hlb).mono ?_
    rintro e w4 ⟨rfl, hb⟩
    have HB4 := Lib.hid (HB3.out.trans (hb.mono HB3.out.size))
    clear hb x0 x1 x2 x3 x4 x5
    cases hfb : fitsL (b0 ++ [b1, b2]) with
    | false =>
      clear hfb
      go_wp2_with (fail)
      refine (awake_calls _).mono ?_
      rintro e wz ⟨rfl, hb⟩
      have HBZ := Lib.hid (HB4.out.trans (hb.mono HB4.out.size))
      clear hb
      go_wp2
      go_ret
      exact ⟨rfl, HBW1.out.trans (HBZ.out.mono HBW1.out.size)⟩
    | true =>
      have HFb := Lib.hid hfb
      clear hfb
      obtain ⟨p, hp⟩ : ∃ p, p = lessT (wtW 0 (a0 ++ [a1, a2])) a0.length (a0 ++ [a1, a2]) (wtW 0 (b0 ++ [b1, b2])) b0.length (b0 ++ [b1, b2]) := ⟨_, rfl⟩
      obtain ⟨q, hq⟩ : ∃ q, q = cmpT (wtW 0 (a0 ++ [a1, a2])) a0.length (a0 ++ [a1, a2]) (wtW 0 (b0 ++ [b1, b2])) b0.length (b0 ++ [b1, b2]) := ⟨_, rfl⟩
      have hpq : decide (q < 0) = p := by rw [hp, hq]; exact cmpT_neg _ _ _ _ _ _
      have HP := Lib.hid hp
      have HQ := Lib.hid hq
      have hpq2 : (p == decide (q < 0)) = true := by rw [hpq]; exact beq_self_eq_true p
      have HPQ := Lib.hid hpq2
      clear hp hq hpq hpq2
      go_wp2_with (fail)
      refine start_ (n := 9) (S := fun w' => w'.cell? ⟨B1, 0, none⟩ = some (.slice Aa0 a0.length ca0) ∧ w'.cell? ⟨B1, 1, none⟩ = some (.slice Aa1 a1.length ca1) ∧ w'.cell? ⟨B1, 2, none⟩ = some (.slice Aa2 a2.length ca2) ∧ w'.cell? ⟨B2, 0, none⟩ = some (.slice Ab0 b0.length cb0) ∧ w'.cell? ⟨B2, 1, none⟩ = some (.slice Ab1 b1.length cb1) ∧ w'.cell? ⟨B2, 2, none⟩ = some (.slice Ab2 b2.length cb2)) (ds := []) #[false, false, false, false, false, false, false, false, false] (by kernel_rfl) rfl rfl (HS.out _ (HB4.out.trans ((below_drew1 (Below.refl _ _)).mono HB4.out.size))) (fun hHeld => ?_); refine with_tabW tab8_3 bits8_3 (fun HT_ HW_ => ?_)
      obtain ⟨W0, hW0⟩ : ∃ W0, W0 = w4.drew := ⟨_, rfl⟩
      have HB0 : Hid (Below W0.heap.size W0 W0) := Lib.hid (Below.refl _ _)
      have hd : Below w4.heap.size w4 W0 := by rw [hW0]; exact below_drew1 (Below.refl _ _)
      have HB6 := Lib.hid (HB4.out.trans (hd.mono HB4.out.size))
      have HSO := HS
      have hs2 : ∀ w', Below W0.heap.size W0 w' → w'.cell? ⟨B1, 0, none⟩ = some (.slice Aa0 a0.length ca0) ∧ w'.cell? ⟨B1, 1, none⟩ = some (.slice Aa1 a1.length ca1) ∧ w'.cell? ⟨B1, 2, none⟩ = some (.slice Aa2 a2.length ca2) ∧ w'.cell? ⟨B2, 0, none⟩ = some (.slice Ab0 b0.length cb0) ∧ w'.cell? ⟨B2, 1, none⟩ = some (.slice Ab1 b1.length cb1) ∧ w'.cell? ⟨B2, 2, none⟩ = some (.slice Ab2 b2.length cb2) := fun w' hb => HSO.out w' (HB6.out.trans (hb.mono HB6.out.size))
      rw [← hW0] at hHeld ⊢
      clear hW0 HS hd
      have HS := Lib.hid hs2
      have HA6 := Lib.hid (HSa.out.below HB6.out)
      have HC6 := Lib.hid (HSb.out.below HB6.out)
      clear hs2
      refine take_ (i := 0) (N := some 18) (v := ?_) (a' := ?_) #[true, false, false, false, false, false, false, false, false] rfl rfl (take_ofW HT_.out HW_.out (by kernel_rfl)) (fun _ _ _ h => h) (Or.inl ⟨by rfl, ?_⟩) hHeld ?_ ?_
      rotate_left
      · rintro w' ⟨s0, s1, s2, s3, s4, s5⟩
        go_simp
        with_reducible rfl
      rotate_left
      · simp only [Act.put, List.setIfInBounds_toArray, List.set_cons_zero, List.set_cons_succ, i64_w, i32_w]
        rfl
      refine take_ (i := 1) (N := some 19) (v := ?_) (a' := ?_) #[true, true, false, false, false, false, false, false, false] rfl rfl (take_ofW HT_.out HW_.out (by kernel_rfl)) (fun _ _ _ h => h) (Or.inl ⟨by rfl, ?_⟩) hHeld ?_ ?_
      rotate_left
      · rintro w' ⟨s0, s1, s2, s3, s4, s5⟩
        go_simp
        with_reducible rfl
      rotate_left
      · simp only [Act.put, List.setIfInBounds_toArray, List.set_cons_zero, List.set_cons_succ, i64_w, i32_w]
        rfl
      refine take_ (i := 3) (N := some 21) (v := ?_) (a' := ?_) #[true, true, false, true, false, false, false, false, false] rfl rfl (take_ofW HT_.out HW_.out (by kernel_rfl)) (fun _ _ _ h => h) (Or.inl ⟨by rfl, ?_⟩) hHeld ?_ ?_
      rotate_left
      · rintro w' ⟨s0, s1, s2, s3, s4, s5⟩
        go_simp
        with_reducible rfl
      rotate_left
      · simp only [Act.put, List.setIfInBounds_toArray, List.set_cons_zero, List.set_cons_succ, i64_w, i32_w]
        rfl
      refine take_ (i := 4) (N := some 22) (v := ?_) (a' := ?_) #[true, true, false, true, true, false, false, false, false] rfl rfl (take_ofW HT_.out HW_.out (by kernel_rfl)) (fun _ _ _ h => h) (Or.inl ⟨by rfl, ?_⟩) hHeld ?_ ?_
      rotate_left
      · rintro w' ⟨s0, s1, s2, s3, s4, s5⟩
        go_simp
        with_reducible rfl
      rotate_left
      · simp only [Act.put, List.setIfInBounds_toArray, List.set_cons_zero, List.set_cons_succ, i64_w, i32_w]
        rfl
      refine join_ (σ := Unit) 3 #[true, true, true, true, true, true, false, false, false] (fun _ => [(20, .bool p), (23, .int .i64 q)]) (fun _ w' => Below W0.heap.size W0 w') ?hc8_3 (fun HCONT => ?ht8_3)
      case ht8_3 =>
        refine one_ (i := 2) (N := some 20) #[true, true, true, true, true, false, false, false, false] rfl rfl (one_of HT_.out (by kernel_rfl)) (by decide) (fun K hK => ?_)
        refine goes_ Try.func24 (by kernel_rfl) rfl #[.agg #[.slice Aa0 a0.length ca0, .slice Aa1 a1.length ca1, .slice Aa2 a2.length ca2], .agg #[.slice Ab0 b0.length cb0, .slice Ab1 b1.length cb1, .slice Ab2 b2.length cb2]] (by rfl) rfl rfl (by first | rfl | simp [Act.eval]) ?_
        refine (less_callsL (HA6.out.below HB0.out) (HC6.out.below HB0.out) hla hlb HFa.out HFb.out).mono ?_
        rw [← HP.out]
        rintro e w8_3_1 ⟨rfl, hb⟩
        refine ⟨_, rfl, ?_⟩
        have HB8_3_1 := Lib.hid (HB0.out.trans (hb.mono HB0.out.size))
        clear hb
        refine hK.out _ _ (HS.out _ HB8_3_1.out) (fun hHeld => ?_)
        clear hK K
        refine norm_ (a' := ?_) ?_ ?_
        rotate_left
        · show Act.put _ (some 20) _ = _
          simp only [Act.put, List.setIfInBounds_toArray, List.set_cons_zero, List.set_cons_succ, i64_w, i32_w]
          rfl
        refine one_ (i := 5) (N := some 23) #[true, true, true, true, true, true, false, false, false] rfl rfl (one_of HT_.out (by kernel_rfl)) (by decide) (fun K hK => ?_)
        refine goes_ Try.func15 (by kernel_rfl) rfl #[.agg #[.slice Aa0 a0.length ca0, .slice Aa1 a1.length ca1, .slice Aa2 a2.length ca2], .agg #[.slice Ab0 b0.length cb0, .slice Ab1 b1.length cb1, .slice Ab2 b2.length cb2]] (by rfl) rfl rfl (by first | rfl | simp [Act.eval]) ?_
        refine (compare_calls (HA6.out.below HB8_3_1.out) (HC6.out.below HB8_3_1.out) (fits_in HFa.out) (fits_in HFb.out) hza hzb).mono ?_
        rw [← HQ.out]
        rintro e w8_3_2 ⟨rfl, hb⟩
        refine ⟨_, rfl, ?_⟩
        have HB8_3_2 := Lib.hid (HB8_3_1.out.trans (hb.mono HB8_3_1.out.size))
        clear hb
        refine hK.out _ _ (HS.out _ HB8_3_2.out) (fun hHeld => ?_)
        clear hK K
        refine norm_ (a' := ?_) ?_ ?_
        rotate_left
        · show Act.put _ (some 23) _ = _
          simp only [Act.put, List.setIfInBounds_toArray, List.set_cons_zero, List.set_cons_succ, i64_w, i32_w]
          rfl
        have hc := HCONT () _ HB8_3_2.out
        simp only [putAll, Act.put, List.setIfInBounds_toArray, List.set_cons_zero, List.set_cons_succ] at hc
        exact hc
      case hc8_3 =>
        rintro ⟨⟩ wz hbz
        have HBZ := Lib.hid hbz
        clear hbz
        have hHeld := HS.out _ HBZ.out; have hpq := HPQ.out
        refine norm_ (a' := ?_) ?_ ?_
        rotate_left
        · simp only [putAll, Act.put, List.setIfInBounds_toArray, List.set_cons_zero, List.set_cons_succ]
          rfl
        refine pure_ (i := 6) (N := some 24) (v := ?_) (a' := ?_) #[true, true, true, true, true, true, true, false, false] rfl rfl (any_of HT_.out (by kernel_rfl)) (fun _ _ _ h => h) (Or.inl ⟨by rfl, ?_⟩) ?_ ?_
        rotate_left
        · intro w'
          go_simp
          with_reducible rfl
        rotate_left
        · simp only [Act.put, List.setIfInBounds_toArray, List.set_cons_zero, List.set_cons_succ, i64_w, i32_w]
          rfl
        refine pure_ (i := 7) (N := some 25) (v := ?_) (a' := ?_) #[true, true, true, true, true, true, true, true, false] rfl rfl (any_of HT_.out (by kernel_rfl)) (fun _ _ _ h => h) (Or.inl ⟨by rfl, ?_⟩) ?_ ?_
        rotate_left
        · intro w'
          go_simp
          with_reducible rfl
        rotate_left
        · simp only [Act.put, List.setIfInBounds_toArray, List.set_cons_zero, List.set_cons_succ, i64_w, i32_w]
          rfl
        refine pure_ (i := 8) (N := some 4) (v := ?_) (a' := ?_) #[true, true, true, true, true, true, true, true, true] rfl rfl (any_of HT_.out (by kernel_rfl)) (fun _ _ _ h => h) (Or.inl ⟨by rfl, ?_⟩) ?_ ?_
        rotate_left
        · intro w'
          go_simp
          with_reducible rfl
        rotate_left
        · simp only [Act.put, List.setIfInBounds_toArray, List.set_cons_zero, List.set_cons_succ, i64_w, i32_w]
          rfl
        refine done_ (done_of HT_.out (by kernel_rfl)) ?_
        have HB7 := Lib.hid (HB6.out.trans (HBZ.out.mono HB6.out.size))
        clear hHeld HBZ HA6 HC6 HS HB0
        go_wp2
        go_ret
        exact ⟨rfl, HBW1.out.trans (HB7.out.mono HBW1.out.size)⟩
end Go.Proofs.Ytgcdeablfoomhaa.PAll
end
section
set_option linter.unusedVariables false
set_option linter.unusedSimpArgs false
namespace Go.Proofs.Ytgcdeablfoomhaa.PAll
open Go.RowKit Go.ChangeShapes Go.WideShapes Go.ChangeAt Go.Proofs.YtgcdeablfoomhaaW.PrintWords Go.Proofs.YtgcdeablfoomhaaW.PrintLast
section
variable {H : Type} {enc : TypeId × Value → H} {P : Program} {w : World} {base : Nat} {spare : Nat → Bool} {held : Bool}
/-- The cells of an element, read as_ an element. -/
def Opens (enc : TypeId × Value → H) (P : Program) (w : World) (base : Nat) (spare : Nat → Bool) (held : Bool) {α : Type} (d : Kd α) (e : TypeId) (good : α → Prop) : Prop :=
  ∀ (fuel : Nat) (cs : List Value) (x : DataW H × List MemPlace), DataW.trod enc P w base spare held fuel e cs = some x → ∃ p, d.K w p cs ∧ good p
theorem add_add_plain (a : Addr) (i j : Nat) : (a.add i).add j = a.add (i + j) := Addr.add_add a i j
theorem opens_row {α : Type} {d : Kd α} {t e : TypeId} {good : α → Prop} (ht : P.underlying t = some (.slice e)) (hc : P.cellsOf e = d.sz) (ho : Opens enc P w base spare held d e good)
    {fuel : Nat} {cs : List Value} {x : DataW H × List MemPlace} (h : DataW.trod enc P w base spare held fuel t cs = some x) :
    ∃ A cap, ∃ l : List α, cs = [.slice A l.length cap] ∧ l.length ≤ cap ∧ d.C w A l.length l ∧ ∀ x ∈ l, good x := by
  rcases DataW.trod_slice ht h with ⟨rfl, _⟩ | ⟨a, len, cap, elems, rest, n, _, rfl, _, hb, hl, hm, hlen, hel, _, _⟩
  · exact ⟨none, 0, [], rfl, Nat.le_refl _, ⟨rfl, by simp, fun hn => by simp at hn⟩, by simp⟩
  · have each : ∀ i : Fin len, ∃ p c, w.cells? base (a.add (i.1 * d.sz)) d.sz = some c ∧ d.K w p c ∧ good p := by
      intro i
      have h1 := hel i.1 i.2
      have hi : i.1 < elems.length := by rw [hlen]; exact i.2
      rw [hc, List.getElem?_eq_getElem hi, Option.bind_eq_some_iff] at h1
      obtain ⟨c, hcs, hy⟩ := h1
      obtain ⟨p, hp, hg⟩ := ho n c _ hy
      exact ⟨p, c, hcs, hp, hg⟩
    obtain ⟨f, hf⟩ := Classical.axiomOfChoice each
    have hL : ((List.finRange len).map f).length = len := by simp
    refine ⟨some a, cap, (List.finRange len).map f, by rw [hL], by rw [hL]; exact hl, ⟨by rw [hL], by rw [hL]; simp only [maxLen] at hm; omega, fun hn => ⟨a, rfl, fun j p hj => ?_⟩⟩, ?_⟩
    · have hjl : j < len := by
        have := (List.getElem?_eq_some_iff.1 hj).1
        rw [hL] at this; exact this
      obtain ⟨c, hcs, hp, hg⟩ := hf ⟨j, hjl⟩
      have he : p = f ⟨j, hjl⟩ := by
        have h2 := (List.getElem?_eq_some_iff.1 hj).2
        simp at h2
        exact h2.symm
      have hs := World.cells?_some hcs
      refine ⟨c, d.K_len hp, by rw [he]; exact hp, fun i u hu => ?_⟩
      have hic : i < d.sz := by have := (List.getElem?_eq_some_iff.1 hu).1; rw [d.K_len hp] at this; exact this
      have h3 := hs.2.2 i hic
      rw [add_add_plain] at h3
      rw [h3]; exact hu
    · intro x hx
      obtain ⟨i, _, rfl⟩ := List.mem_map.1 hx
      obtain ⟨c, _, _, hg⟩ := hf i
      exact hg
theorem opens_int {e : TypeId} {k : IntKind} (he : P.underlying e = some (.int k)) : Opens enc P w base spare held (Kd.int k) e (fun n => (Lit.int k n).wf = true) := by
  intro fuel cs x h
  obtain ⟨n, rfl, _, hw⟩ := DataW.trod_int he h
  exact ⟨n, rfl, hw⟩
theorem opens_slice {α : Type} {d : Kd α} {t e : TypeId} {good : α → Prop} (ht : P.underlying t = some (.slice e)) (hc : P.cellsOf e = d.sz) (ho : Opens enc P w base spare held d e good) :
    Opens enc P w base spare held (Kd.slice e d) t (fun l => ∀ x ∈ l, good x) := by
  intro fuel cs x h
  obtain ⟨A, cap, l, rfl, hl, hC, hg⟩ := opens_row ht hc ho h
  exact ⟨l, ⟨A, cap, rfl, hl, hC⟩, hg⟩
end
end Go.Proofs.Ytgcdeablfoomhaa.PAll
end
section
set_option linter.unusedVariables false
set_option linter.unusedSimpArgs false
namespace Go.Proofs.Ytgcdeablfoomhaa.PAll
open Go.RowKit Go.ChangeShapes Go.WideShapes Go.ChangeAt Go.Proofs.YtgcdeablfoomhaaW.PrintWords Go.Proofs.YtgcdeablfoomhaaW.PrintLast
variable {H : Type} {enc : TypeId × Value → H} {w : World} {base : Nat} {spare : Nat → Bool} {held : Bool}
def goodInts (l : List Int) : Prop := ∀ x ∈ l, (Lit.int .i64 x).wf = true
set_option maxRecDepth 100000 in
theorem open_state {W : World} {r : Reach} {b0 : Nat} {v : Value} {dd : DataW H} {p : List MemPlace} (hval : Value.okWide Try.prog W r b0 35 v) (h : DataW.Trod enc Try.prog w base spare held 35 v dd p) :
    ∃ A0 c0, ∃ l0 : List (List Int), ∃ A1 c1, ∃ l1 : List Int, ∃ A2 c2, ∃ l2 : List Int, v = .agg #[.slice A0 l0.length c0, .slice A1 l1.length c1, .slice A2 l2.length c2] ∧
      (l0.length ≤ c0 ∧ Kd.C (Kd.slice 3 (Kd.int .i64)) w A0 l0.length l0 ∧ ∀ x ∈ l0, goodInts x) ∧ (l1.length ≤ c1 ∧ Kd.C (Kd.int .i64) w A1 l1.length l1 ∧ goodInts l1) ∧ (l2.length ≤ c2 ∧ Kd.C (Kd.int .i64) w A2 l2.length l2 ∧ goodInts l2) := by
  have hv : ∃ cs : Array Value, v = .agg cs ∧ cs.size = Try.prog.cellsOf 35 := by
    unfold Value.okWide at hval
    rw [Try.underlying35] at hval
    obtain ⟨cs, h1, h2, _⟩ := hval
    exact ⟨cs, h1, h2⟩
  obtain ⟨cs, rfl, hsz⟩ := hv
  obtain ⟨fuel, h⟩ := h
  have hcells : (Value.agg cs).cells.toList = cs.toList := rfl
  rw [hcells] at h
  obtain ⟨xs, n, _, _, hcs, hxs, hf⟩ := DataW.trod_struct Try.underlying35 h
  have e35 : Try.prog.cellsOf 35 = 3 := by kernel_rfl
  have hl : cs.toList.length = 3 := by rw [hcs, e35]
  obtain ⟨a, b, c, hcl⟩ : ∃ a b c, cs.toList = [a, b, c] := by
    match cs.toList, hl with
    | [a, b, c], _ => exact ⟨a, b, c, rfl⟩
  obtain rfl : cs = #[a, b, c] := by rw [← Array.toList_inj]; exact hcl
  have hx3 : xs.length = 3 := hxs
  have h0 := hf 0 _ rfl
  have h1 := hf 1 _ rfl
  have h2 := hf 2 _ rfl
  rw [List.getElem?_eq_getElem (by omega)] at h0 h1 h2
  have e3 : Try.prog.cellsOf 3 = 1 := by kernel_rfl
  have e33 : Try.prog.cellsOf 33 = 1 := by kernel_rfl
  have e32 : Try.prog.cellsOf 32 = 1 := by kernel_rfl
  obtain ⟨A0, c0, l0, hs0, g0, C0, w0⟩ := opens_row (d := Kd.slice 3 (Kd.int .i64)) (good := goodInts) Try.underlying32 e33 (opens_slice Try.underlying33 e3 (opens_int Try.underlying3)) h0
  obtain ⟨A1, c1, l1, hs1, g1, C1, w1⟩ := opens_row (d := Kd.int .i64) Try.underlying33 e3 (opens_int Try.underlying3) h1
  obtain ⟨A2, c2, l2, hs2, g2, C2, w2⟩ := opens_row (d := Kd.int .i64) Try.underlying33 e3 (opens_int Try.underlying3) h2
  have hs0' : [a] = [Value.slice A0 l0.length c0] := by
    have : ([a, b, c].drop 0).take (Try.prog.cellsOf 32) = [Value.slice A0 l0.length c0] := hs0
    rw [e32] at this; simpa using this
  have hs1' : [b] = [Value.slice A1 l1.length c1] := by
    have : ([a, b, c].drop 1).take (Try.prog.cellsOf 33) = [Value.slice A1 l1.length c1] := hs1
    rw [e33] at this; simpa using this
  have hs2' : [c] = [Value.slice A2 l2.length c2] := by
    have : ([a, b, c].drop 2).take (Try.prog.cellsOf 33) = [Value.slice A2 l2.length c2] := hs2
    rw [e33] at this; simpa using this
  obtain rfl : a = .slice A0 l0.length c0 := by simpa using hs0'
  obtain rfl : b = .slice A1 l1.length c1 := by simpa using hs1'
  obtain rfl : c = .slice A2 l2.length c2 := by simpa using hs2'
  exact ⟨A0, c0, l0, A1, c1, l1, A2, c2, l2, rfl, ⟨g0, C0, w0⟩, ⟨g1, C1, w1⟩, ⟨g2, C2, w2⟩⟩
end Go.Proofs.Ytgcdeablfoomhaa.PAll
end
