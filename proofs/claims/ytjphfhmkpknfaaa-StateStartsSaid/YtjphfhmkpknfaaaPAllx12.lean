-- LAID BY A PROGRAM (wip/tprint.py) out of the translation. Nothing here is trusted.
import Derived.Test.YtjphfhmkpknfaaaPAllx0
import Derived.Test.YtjphfhmkpknfaaaPAllx3
import Derived.Test.YtjphfhmkpknfaaaPAllx6
import Derived.Test.YtjphfhmkpknfaaaPAllx7
import Derived.Test.YtjphfhmkpknfaaaPAllx8
import Derived.Test.YtjphfhmkpknfaaaPAllx9
import Derived.Test.YtjphfhmkpknfaaaPAllx10
import Derived.Test.YtjphfhmkpknfaaaPAllx11
namespace Go.Proofs.Ytjphfhmkpknfaaa.PAll
open Go.RowKit Go.Proofs.YtjphfhmkpknfaaaW.PrintWords Go.Proofs.YtjphfhmkpknfaaaW.PrintLast Go.Proofs.YtjphfhmkpknfaaaW.PrintMore
attribute [local go_sem] max2_int min2_int max_two min_two max_three min_three max_four min_four   -- for this text's walks alone
set_option linter.unusedVariables false
set_option linter.unusedSimpArgs false

/-! ### backsteplaw10_StateStarts: function 4 -/
mutual
def backsteplaw10_StateStarts.j0 : Nat → List (S44) → List Int → Bool → Option (Bool)
  | 0, _, _, _ => none
  | k + 1, x0, x1, x20 => if x20 = true then (some true) else ((some (([] : List Int) : List Int)).bind fun y216 => (if y216.length + x1.length < 17592186044416 then ((some (y216 ++ x1 : List Int)).bind fun y219 => ((state_New.f k x0 y219).bind fun bt222 => (backsteplaw10_StateStarts.l0 k x0 x1 y219 bt222.2.2.2 0 bt222.1 bt222.2.1 bt222.2.2.1))) else (none)))
def backsteplaw10_StateStarts.l0 : Nat → List (S44) → List Int → List Int → Int → Int → List (List Int) → List Int → List Int → Option (Bool)
  | 0, _, _, _, _, _, _, _, _ => none
  | k + 1, x0, x1, x5, x7, x8, x233000, x233001, x233002 => if x8 < (x5.length : Int) then (if 0 ≤ x8 then (backsteplaw10_StateStarts.l0 k x0 x1 (x5.set (x8 : Int).toNat (wrap64 ((rd x5 x8) + 1))) x7 (wrap64 (x8 + 1)) x233000 x233001 x233002) else (none)) else ((backstepref10_Valid.f k x0).bind fun t235 => (if t235 = true then (if x7 = 0 then ((state_Fits.f k x0 x233000 x233001 x233002).bind fun t237 => (if t237 = true then ((backstepref10_Fits.f k x0 x233000 x233001 x233002).bind fun t238 => (if t238 = true then ((backstepref10_Ints.f k x233001 x1).bind fun t239 => (if t239 = true then (backsteplaw10_StateStarts.j2 k x0 ((x233002.length : Int) != 0) x233000 x233001 x233002) else (backsteplaw10_StateStarts.j2 k x0 true x233000 x233001 x233002))) else (backsteplaw10_StateStarts.j2 k x0 true x233000 x233001 x233002))) else (backsteplaw10_StateStarts.j2 k x0 true x233000 x233001 x233002))) else (backsteplaw10_StateStarts.j2 k x0 true x233000 x233001 x233002)) else (if x7 = 3 then ((backstepref10_Equal.f k x233000 x233001 x233002 ([] : List (List Int)) ([] : List Int) ([] : List Int)).bind fun t236 => (some t236)) else (some false))))
def backsteplaw10_StateStarts.j2 : Nat → List (S44) → Bool → List (List Int) → List Int → List Int → Option (Bool)
  | 0, _, _, _, _, _ => none
  | k + 1, x0, x78, x233000, x233001, x233002 => if x78 = true then (some false) else (backsteplaw10_StateStarts.l1 k x0 0 x233000 x233001 x233002)
def backsteplaw10_StateStarts.l1 : Nat → List (S44) → Int → List (List Int) → List Int → List Int → Option (Bool)
  | 0, _, _, _, _, _ => none
  | k + 1, x0, x9, x233000, x233001, x233002 => if x9 < (x0.length : Int) then (if 0 ≤ x9 then (if ((rd_T44 x0 x9).f1) = 3 then (if x9 < (x233000.length : Int) then (backsteplaw10_StateStarts.j4 k x0 x9 (((rd_L1 x233000 x9).length : Int) != 0) x233000 x233001 x233002) else (none)) else (backsteplaw10_StateStarts.j4 k x0 x9 false x233000 x233001 x233002)) else (none)) else (some true)
def backsteplaw10_StateStarts.j4 : Nat → List (S44) → Int → Bool → List (List Int) → List Int → List Int → Option (Bool)
  | 0, _, _, _, _, _, _ => none
  | k + 1, x0, x9, x99, x233000, x233001, x233002 => if x99 = true then (some false) else (backsteplaw10_StateStarts.l2 k x0 x9 0 x233000 x233001 x233002)
def backsteplaw10_StateStarts.l2 : Nat → List (S44) → Int → Int → List (List Int) → List Int → List Int → Option (Bool)
  | 0, _, _, _, _, _, _ => none
  | k + 1, x0, x9, x10, x233000, x233001, x233002 => if 0 ≤ x9 then (if x9 < (x233000.length : Int) then (if x10 < ((rd_L1 x233000 x9).length : Int) then (if 0 ≤ x10 then (if (rd (rd_L1 x233000 x9) x10) = 0 then (backsteplaw10_StateStarts.l2 k x0 x9 (wrap64 (x10 + 1)) x233000 x233001 x233002) else (some false)) else (none)) else (backsteplaw10_StateStarts.l1 k x0 (wrap64 (x9 + 1)) x233000 x233001 x233002)) else (none)) else (none)
end
def backsteplaw10_StateStarts.f (k : Nat) (l0 : List (S44)) (l1 : List Int) : Option (Bool) := (backsteplaw10_awake.f k).bind fun t215 => (if t215 = true then (if (l0.length : Int) > 40 then (backsteplaw10_StateStarts.j0 k l0 l1 true) else (backsteplaw10_StateStarts.j0 k l0 l1 (decide ((l1.length : Int) > 60)))) else (some false))
theorem backsteplaw10_StateStarts.mono_l : ∀ k, (∀ y0 y1 y2, LeO (backsteplaw10_StateStarts.j0 k y0 y1 y2) (backsteplaw10_StateStarts.j0 (k + 1) y0 y1 y2)) ∧ (∀ y0 y1 y2 y3 y4 y5 y6 y7, LeO (backsteplaw10_StateStarts.l0 k y0 y1 y2 y3 y4 y5 y6 y7) (backsteplaw10_StateStarts.l0 (k + 1) y0 y1 y2 y3 y4 y5 y6 y7)) ∧ (∀ y0 y1 y2 y3 y4, LeO (backsteplaw10_StateStarts.j2 k y0 y1 y2 y3 y4) (backsteplaw10_StateStarts.j2 (k + 1) y0 y1 y2 y3 y4)) ∧ (∀ y0 y1 y2 y3 y4, LeO (backsteplaw10_StateStarts.l1 k y0 y1 y2 y3 y4) (backsteplaw10_StateStarts.l1 (k + 1) y0 y1 y2 y3 y4)) ∧ (∀ y0 y1 y2 y3 y4 y5, LeO (backsteplaw10_StateStarts.j4 k y0 y1 y2 y3 y4 y5) (backsteplaw10_StateStarts.j4 (k + 1) y0 y1 y2 y3 y4 y5)) ∧ (∀ y0 y1 y2 y3 y4 y5, LeO (backsteplaw10_StateStarts.l2 k y0 y1 y2 y3 y4 y5) (backsteplaw10_StateStarts.l2 (k + 1) y0 y1 y2 y3 y4 y5))
  | 0 => ⟨fun _ _ _ r h => by simp [backsteplaw10_StateStarts.j0] at h, fun _ _ _ _ _ _ _ _ r h => by simp [backsteplaw10_StateStarts.l0] at h, fun _ _ _ _ _ r h => by simp [backsteplaw10_StateStarts.j2] at h, fun _ _ _ _ _ r h => by simp [backsteplaw10_StateStarts.l1] at h, fun _ _ _ _ _ _ r h => by simp [backsteplaw10_StateStarts.j4] at h, fun _ _ _ _ _ _ r h => by simp [backsteplaw10_StateStarts.l2] at h⟩
  | k + 1 => by
    obtain ⟨ih0, ih1, ih2, ih3, ih4, ih5⟩ := backsteplaw10_StateStarts.mono_l k
    refine ⟨?_, ?_, ?_, ?_, ?_, ?_⟩
    · intro y0 y1 y2
      unfold backsteplaw10_StateStarts.j0
      repeat' first
      | (with_reducible exact ih0 _ _ _)
      | (with_reducible exact ih1 _ _ _ _ _ _ _ _)
      | (with_reducible exact ih2 _ _ _ _ _)
      | (with_reducible exact ih3 _ _ _ _ _)
      | (with_reducible exact ih4 _ _ _ _ _ _)
      | (with_reducible exact ih5 _ _ _ _ _ _)
      | (with_reducible exact backsteplaw10_awake.mono _)
      | (with_reducible exact backstepref10_Equal.mono _ _ _ _ _ _ _)
      | (with_reducible exact backstepref10_Fits.mono _ _ _ _ _)
      | (with_reducible exact backstepref10_Ints.mono _ _ _)
      | (with_reducible exact backstepref10_Valid.mono _ _)
      | (with_reducible exact state_Fits.mono _ _ _ _ _)
      | (with_reducible exact state_New.mono _ _ _)
      | (with_reducible exact LeO.refl _)
      | (with_reducible exact LeO.none _)
      | (with_reducible refine LeO.ite ?_ ?_)
      | (with_reducible refine LeO.bind ?_ (fun _ => ?_))
      | exact ih0 _ _ _
      | exact ih1 _ _ _ _ _ _ _ _
      | exact ih2 _ _ _ _ _
      | exact ih3 _ _ _ _ _
      | exact ih4 _ _ _ _ _ _
      | exact ih5 _ _ _ _ _ _
      | exact backsteplaw10_awake.mono _
      | exact backstepref10_Equal.mono _ _ _ _ _ _ _
      | exact backstepref10_Fits.mono _ _ _ _ _
      | exact backstepref10_Ints.mono _ _ _
      | exact backstepref10_Valid.mono _ _
      | exact state_Fits.mono _ _ _ _ _
      | exact state_New.mono _ _ _
      | exact LeO.none _
      | refine LeO.ite ?_ ?_
      | refine LeO.bind ?_ (fun _ => ?_)
    · intro y0 y1 y2 y3 y4 y5 y6 y7
      unfold backsteplaw10_StateStarts.l0
      repeat' first
      | (with_reducible exact ih0 _ _ _)
      | (with_reducible exact ih1 _ _ _ _ _ _ _ _)
      | (with_reducible exact ih2 _ _ _ _ _)
      | (with_reducible exact ih3 _ _ _ _ _)
      | (with_reducible exact ih4 _ _ _ _ _ _)
      | (with_reducible exact ih5 _ _ _ _ _ _)
      | (with_reducible exact backsteplaw10_awake.mono _)
      | (with_reducible exact backstepref10_Equal.mono _ _ _ _ _ _ _)
      | (with_reducible exact backstepref10_Fits.mono _ _ _ _ _)
      | (with_reducible exact backstepref10_Ints.mono _ _ _)
      | (with_reducible exact backstepref10_Valid.mono _ _)
      | (with_reducible exact state_Fits.mono _ _ _ _ _)
      | (with_reducible exact state_New.mono _ _ _)
      | (with_reducible exact LeO.refl _)
      | (with_reducible exact LeO.none _)
      | (with_reducible refine LeO.ite ?_ ?_)
      | (with_reducible refine LeO.bind ?_ (fun _ => ?_))
      | exact ih0 _ _ _
      | exact ih1 _ _ _ _ _ _ _ _
      | exact ih2 _ _ _ _ _
      | exact ih3 _ _ _ _ _
      | exact ih4 _ _ _ _ _ _
      | exact ih5 _ _ _ _ _ _
      | exact backsteplaw10_awake.mono _
      | exact backstepref10_Equal.mono _ _ _ _ _ _ _
      | exact backstepref10_Fits.mono _ _ _ _ _
      | exact backstepref10_Ints.mono _ _ _
      | exact backstepref10_Valid.mono _ _
      | exact state_Fits.mono _ _ _ _ _
      | exact state_New.mono _ _ _
      | exact LeO.none _
      | refine LeO.ite ?_ ?_
      | refine LeO.bind ?_ (fun _ => ?_)
    · intro y0 y1 y2 y3 y4
      unfold backsteplaw10_StateStarts.j2
      repeat' first
      | (with_reducible exact ih0 _ _ _)
      | (with_reducible exact ih1 _ _ _ _ _ _ _ _)
      | (with_reducible exact ih2 _ _ _ _ _)
      | (with_reducible exact ih3 _ _ _ _ _)
      | (with_reducible exact ih4 _ _ _ _ _ _)
      | (with_reducible exact ih5 _ _ _ _ _ _)
      | (with_reducible exact backsteplaw10_awake.mono _)
      | (with_reducible exact backstepref10_Equal.mono _ _ _ _ _ _ _)
      | (with_reducible exact backstepref10_Fits.mono _ _ _ _ _)
      | (with_reducible exact backstepref10_Ints.mono _ _ _)
      | (with_reducible exact backstepref10_Valid.mono _ _)
      | (with_reducible exact state_Fits.mono _ _ _ _ _)
      | (with_reducible exact state_New.mono _ _ _)
      | (with_reducible exact LeO.refl _)
      | (with_reducible exact LeO.none _)
      | (with_reducible refine LeO.ite ?_ ?_)
      | (with_reducible refine LeO.bind ?_ (fun _ => ?_))
      | exact ih0 _ _ _
      | exact ih1 _ _ _ _ _ _ _ _
      | exact ih2 _ _ _ _ _
      | exact ih3 _ _ _ _ _
      | exact ih4 _ _ _ _ _ _
      | exact ih5 _ _ _ _ _ _
      | exact backsteplaw10_awake.mono _
      | exact backstepref10_Equal.mono _ _ _ _ _ _ _
      | exact backstepref10_Fits.mono _ _ _ _ _
      | exact backstepref10_Ints.mono _ _ _
      | exact backstepref10_Valid.mono _ _
      | exact state_Fits.mono _ _ _ _ _
      | exact state_New.mono _ _ _
      | exact LeO.none _
      | refine LeO.ite ?_ ?_
      | refine LeO.bind ?_ (fun _ => ?_)
    · intro y0 y1 y2 y3 y4
      unfold backsteplaw10_StateStarts.l1
      repeat' first
      | (with_reducible exact ih0 _ _ _)
      | (with_reducible exact ih1 _ _ _ _ _ _ _ _)
      | (with_reducible exact ih2 _ _ _ _ _)
      | (with_reducible exact ih3 _ _ _ _ _)
      | (with_reducible exact ih4 _ _ _ _ _ _)
      | (with_reducible exact ih5 _ _ _ _ _ _)
      | (with_reducible exact backsteplaw10_awake.mono _)
      | (with_reducible exact backstepref10_Equal.mono _ _ _ _ _ _ _)
      | (with_reducible exact backstepref10_Fits.mono _ _ _ _ _)
      | (with_reducible exact backstepref10_Ints.mono _ _ _)
      | (with_reducible exact backstepref10_Valid.mono _ _)
      | (with_reducible exact state_Fits.mono _ _ _ _ _)
      | (with_reducible exact state_New.mono _ _ _)
      | (with_reducible exact LeO.refl _)
      | (with_reducible exact LeO.none _)
      | (with_reducible refine LeO.ite ?_ ?_)
      | (with_reducible refine LeO.bind ?_ (fun _ => ?_))
      | exact ih0 _ _ _
      | exact ih1 _ _ _ _ _ _ _ _
      | exact ih2 _ _ _ _ _
      | exact ih3 _ _ _ _ _
      | exact ih4 _ _ _ _ _ _
      | exact ih5 _ _ _ _ _ _
      | exact backsteplaw10_awake.mono _
      | exact backstepref10_Equal.mono _ _ _ _ _ _ _
      | exact backstepref10_Fits.mono _ _ _ _ _
      | exact backstepref10_Ints.mono _ _ _
      | exact backstepref10_Valid.mono _ _
      | exact state_Fits.mono _ _ _ _ _
      | exact state_New.mono _ _ _
      | exact LeO.none _
      | refine LeO.ite ?_ ?_
      | refine LeO.bind ?_ (fun _ => ?_)
    · intro y0 y1 y2 y3 y4 y5
      unfold backsteplaw10_StateStarts.j4
      repeat' first
      | (with_reducible exact ih0 _ _ _)
      | (with_reducible exact ih1 _ _ _ _ _ _ _ _)
      | (with_reducible exact ih2 _ _ _ _ _)
      | (with_reducible exact ih3 _ _ _ _ _)
      | (with_reducible exact ih4 _ _ _ _ _ _)
      | (with_reducible exact ih5 _ _ _ _ _ _)
      | (with_reducible exact backsteplaw10_awake.mono _)
      | (with_reducible exact backstepref10_Equal.mono _ _ _ _ _ _ _)
      | (with_reducible exact backstepref10_Fits.mono _ _ _ _ _)
      | (with_reducible exact backstepref10_Ints.mono _ _ _)
      | (with_reducible exact backstepref10_Valid.mono _ _)
      | (with_reducible exact state_Fits.mono _ _ _ _ _)
      | (with_reducible exact state_New.mono _ _ _)
      | (with_reducible exact LeO.refl _)
      | (with_reducible exact LeO.none _)
      | (with_reducible refine LeO.ite ?_ ?_)
      | (with_reducible refine LeO.bind ?_ (fun _ => ?_))
      | exact ih0 _ _ _
      | exact ih1 _ _ _ _ _ _ _ _
      | exact ih2 _ _ _ _ _
      | exact ih3 _ _ _ _ _
      | exact ih4 _ _ _ _ _ _
      | exact ih5 _ _ _ _ _ _
      | exact backsteplaw10_awake.mono _
      | exact backstepref10_Equal.mono _ _ _ _ _ _ _
      | exact backstepref10_Fits.mono _ _ _ _ _
      | exact backstepref10_Ints.mono _ _ _
      | exact backstepref10_Valid.mono _ _
      | exact state_Fits.mono _ _ _ _ _
      | exact state_New.mono _ _ _
      | exact LeO.none _
      | refine LeO.ite ?_ ?_
      | refine LeO.bind ?_ (fun _ => ?_)
    · intro y0 y1 y2 y3 y4 y5
      unfold backsteplaw10_StateStarts.l2
      repeat' first
      | (with_reducible exact ih0 _ _ _)
      | (with_reducible exact ih1 _ _ _ _ _ _ _ _)
      | (with_reducible exact ih2 _ _ _ _ _)
      | (with_reducible exact ih3 _ _ _ _ _)
      | (with_reducible exact ih4 _ _ _ _ _ _)
      | (with_reducible exact ih5 _ _ _ _ _ _)
      | (with_reducible exact backsteplaw10_awake.mono _)
      | (with_reducible exact backstepref10_Equal.mono _ _ _ _ _ _ _)
      | (with_reducible exact backstepref10_Fits.mono _ _ _ _ _)
      | (with_reducible exact backstepref10_Ints.mono _ _ _)
      | (with_reducible exact backstepref10_Valid.mono _ _)
      | (with_reducible exact state_Fits.mono _ _ _ _ _)
      | (with_reducible exact state_New.mono _ _ _)
      | (with_reducible exact LeO.refl _)
      | (with_reducible exact LeO.none _)
      | (with_reducible refine LeO.ite ?_ ?_)
      | (with_reducible refine LeO.bind ?_ (fun _ => ?_))
      | exact ih0 _ _ _
      | exact ih1 _ _ _ _ _ _ _ _
      | exact ih2 _ _ _ _ _
      | exact ih3 _ _ _ _ _
      | exact ih4 _ _ _ _ _ _
      | exact ih5 _ _ _ _ _ _
      | exact backsteplaw10_awake.mono _
      | exact backstepref10_Equal.mono _ _ _ _ _ _ _
      | exact backstepref10_Fits.mono _ _ _ _ _
      | exact backstepref10_Ints.mono _ _ _
      | exact backstepref10_Valid.mono _ _
      | exact state_Fits.mono _ _ _ _ _
      | exact state_New.mono _ _ _
      | exact LeO.none _
      | refine LeO.ite ?_ ?_
      | refine LeO.bind ?_ (fun _ => ?_)
theorem backsteplaw10_StateStarts.mono : ∀ a0 a1 k, LeO (backsteplaw10_StateStarts.f k a0 a1) (backsteplaw10_StateStarts.f (k + 1) a0 a1) := by
  intro a0 a1 k
  obtain ⟨ih0, ih1, ih2, ih3, ih4, ih5⟩ := backsteplaw10_StateStarts.mono_l k
  unfold backsteplaw10_StateStarts.f
  repeat' first
      | (with_reducible exact ih0 _ _ _)
      | (with_reducible exact ih1 _ _ _ _ _ _ _ _)
      | (with_reducible exact ih2 _ _ _ _ _)
      | (with_reducible exact ih3 _ _ _ _ _)
      | (with_reducible exact ih4 _ _ _ _ _ _)
      | (with_reducible exact ih5 _ _ _ _ _ _)
      | (with_reducible exact backsteplaw10_awake.mono _)
      | (with_reducible exact backstepref10_Equal.mono _ _ _ _ _ _ _)
      | (with_reducible exact backstepref10_Fits.mono _ _ _ _ _)
      | (with_reducible exact backstepref10_Ints.mono _ _ _)
      | (with_reducible exact backstepref10_Valid.mono _ _)
      | (with_reducible exact state_Fits.mono _ _ _ _ _)
      | (with_reducible exact state_New.mono _ _ _)
      | (with_reducible exact LeO.refl _)
      | (with_reducible exact LeO.none _)
      | (with_reducible refine LeO.ite ?_ ?_)
      | (with_reducible refine LeO.bind ?_ (fun _ => ?_))
      | exact ih0 _ _ _
      | exact ih1 _ _ _ _ _ _ _ _
      | exact ih2 _ _ _ _ _
      | exact ih3 _ _ _ _ _
      | exact ih4 _ _ _ _ _ _
      | exact ih5 _ _ _ _ _ _
      | exact backsteplaw10_awake.mono _
      | exact backstepref10_Equal.mono _ _ _ _ _ _ _
      | exact backstepref10_Fits.mono _ _ _ _ _
      | exact backstepref10_Ints.mono _ _ _
      | exact backstepref10_Valid.mono _ _
      | exact state_Fits.mono _ _ _ _ _
      | exact state_New.mono _ _ _
      | exact LeO.none _
      | refine LeO.ite ?_ ?_
      | refine LeO.bind ?_ (fun _ => ?_)
set_option maxHeartbeats 8000000 in
set_option maxRecDepth 100000 in
theorem backsteplaw10_StateStarts.calls (k : Nat) (A0 : Option Addr) (c0 : Nat) (l0 : List (S44)) (A1 : Option Addr) (c1 : Nat) (l1 : List Int) (r : Bool) (w : World) (hr0 : Kd.C k44 w A0 l0.length l0) (hc0 : l0.length ≤ c0) (hr1 : Kd.C (Kd.int .i64) w A1 l1.length l1) (hc1 : l1.length ≤ c1) (h : backsteplaw10_StateStarts.f k l0 l1 = some r) :
    Calls Try.prog 4 #[.slice A0 l0.length c0, .slice A1 l1.length c1] w fun e w' => e = .returned (.bool r) ∧ Below w.heap.size w w' := by
  have hu25 := Try.underlying25
  have HR0 := Aside0.mk hr0
  have HC0 := Aside0.mk hc0
  clear hr0 hc0
  have HR1 := Aside0.mk hr1
  have HC1 := Aside0.mk hc1
  clear hr1 hc1
  have HB := Aside0.mk (Below.refl w.heap.size w)
  have H : ((backsteplaw10_awake.f k).bind fun t215 => (if t215 = true then (if (l0.length : Int) > 40 then (backsteplaw10_StateStarts.j0 k l0 l1 true) else (backsteplaw10_StateStarts.j0 k l0 l1 (decide ((l1.length : Int) > 60)))) else (some false))) = some r := h
  clear h
  replace H := Option.bind_eq_some_iff.mp H
  obtain ⟨t215, A30, H⟩ := H
  replace H : (if t215 = true then (if (l0.length : Int) > 40 then (backsteplaw10_StateStarts.j0 k l0 l1 true) else (backsteplaw10_StateStarts.j0 k l0 l1 (decide ((l1.length : Int) > 60)))) else (some false)) = some r := H
  have A3 := Aside0.mk A30
  clear A30
  by_cases c4 : t215 = true
  · subst c4
    have H1 : (if (l0.length : Int) > 40 then (backsteplaw10_StateStarts.j0 k l0 l1 true) else (backsteplaw10_StateStarts.j0 k l0 l1 (decide ((l1.length : Int) > 60)))) = some r := by rw [if_pos rfl] at H; exact H
    clear H
    have H := H1
    clear H1
    have HC5 := Aside0.mk H
    clear H
    go_enter Try.func4, Try.ntmps4
    go_upto_region 3 with (first | ((with_reducible refine gate_callee (f := 13) rfl ?_); refine goesL_ (some 11) rfl rfl Try.func13 (by kernel_rfl) rfl #[] rfl (by (try simp only [List.map_toArray, List.map_cons, List.map_nil]); first | done | rfl | (simp only [List.length_drop, List.length_take]; rfl)) ?_; (with_reducible refine (backsteplaw10_awake.calls k  true _ A3.out).mono ?_); rintro e w6 ⟨rfl, hb⟩; refine ⟨_, rfl, ?_⟩; have n0_ := Aside0.mk (below_step (by repeat (first | (with_reducible first | exact HB.out | apply below_alloc | apply pw_below_drewN | apply below_drew1) | exact HB.out)) hb); clear HB; have HB := n0_; clear n0_; (try clear hb); (try clear hb2); (try clear hk); (try clear hi)))
    (try simp only [Act.put, List.setIfInBounds_toArray, List.set_cons_zero, List.set_cons_succ])
    go_cut [20] (fun v20 wc => ∃ (kq : Nat) (x20_4 : Bool), v20 = .bool x20_4 ∧ Aside0 (backsteplaw10_StateStarts.j0 kq l0 l1 x20_4 = some r) ∧ Aside0 (kq ≤ k) ∧ Aside0 (Below w.heap.size w wc))
    case first =>
      have H := HC5.out
      clear HC5
      by_cases c7 : (l0.length : Int) > 40
      · rw [if_pos c7] at H
        have c7b0 : decide (40 < (l0.length : Int)) = true := decide_eq_true c7
        have c7b1 : decide (40 < l0.length) = true := decide_eq_true (by omega)
        clear c7
        (first | rw [c7b0] | (simp only [i64_w, i32_w]; rw [c7b0]) | skip)
        have H' := Aside0.mk H
        clear H
        go_wp2
        go_meet
        case rel => exact ⟨_, (true), (by first | rfl | (simp; done) | (simp [*]; done)), H', ⟨by first | omega | exact Nat.le_refl _⟩, ⟨by repeat (first | (with_reducible first | exact HB.out | apply below_alloc | apply pw_below_drewN | apply below_drew1) | exact HB.out)⟩⟩
      · rw [if_neg c7] at H
        have c7b0 : decide (40 < (l0.length : Int)) = false := decide_eq_false c7
        have c7b1 : decide (40 < l0.length) = false := decide_eq_false (by omega)
        clear c7
        (first | rw [c7b0] | (simp only [i64_w, i32_w]; rw [c7b0]) | skip)
        have H' := Aside0.mk H
        clear H
        go_wp2
        go_meet
        case rel => exact ⟨_, (decide ((l1.length : Int) > 60)), (by first | rfl | (simp; done) | (simp [*]; done)), H', ⟨by first | omega | exact Nat.le_refl _⟩, ⟨by repeat (first | (with_reducible first | exact HB.out | apply below_alloc | apply pw_below_drewN | apply below_drew1) | exact HB.out)⟩⟩
    case rest =>
      clear HC5
      try clear c1
      try clear p2
      try clear c4
      try clear c7
      try clear c7b0
      try clear c7b1
      obtain ⟨kq, x20_4, rfl, HA, HJ4, HB⟩ := hcut
      cases kq with
      | zero => exact absurd HA.out (by simp [backsteplaw10_StateStarts.j0])
      | succ kj4 =>
        have H := HA.out
        clear HA
        simp only [backsteplaw10_StateStarts.j0] at H
        by_cases c8 : x20_4 = true
        · subst c8
          have H1 : (some true) = some r := by rw [if_pos rfl] at H; exact H
          clear H
          have H := H1
          clear H1
          obtain rfl := Option.some.inj H
          go_wp2
          go_ret
          exact ⟨by first | rfl | (simp [errW_none, errW_some] <;> rfl) | (simp [*, errW_none, errW_some] <;> rfl), by repeat (first | (with_reducible first | exact HB.out | apply below_alloc | apply pw_below_drewN | apply below_drew1) | exact HB.out)⟩
        · replace c8 := Bool.eq_false_iff.mpr c8
          subst c8
          have H1 : ((some (([] : List Int) : List Int)).bind fun y216 => (if y216.length + l1.length < 17592186044416 then ((some (y216 ++ l1 : List Int)).bind fun y219 => ((state_New.f kj4 l0 y219).bind fun bt222 => (backsteplaw10_StateStarts.l0 kj4 l0 l1 y219 bt222.2.2.2 0 bt222.1 bt222.2.1 bt222.2.2.1))) else (none))) = some r := by rw [if_neg (show ¬ (false = true) by decide)] at H; exact H
          clear H
          have H := H1
          clear H1
          obtain ⟨y216, hy216⟩ : ∃ y_ : List Int, y_ = (([] : List Int)) := ⟨_, rfl⟩
          replace H : (if y216.length + l1.length < 17592186044416 then ((some (y216 ++ l1 : List Int)).bind fun y219 => ((state_New.f kj4 l0 y219).bind fun bt222 => (backsteplaw10_StateStarts.l0 kj4 l0 l1 y219 bt222.2.2.2 0 bt222.1 bt222.2.1 bt222.2.2.1))) else (none)) = some r := by first | (rw [hy216]; with_reducible exact H) | (have H2_ := (Option.bind_some _ _).symm.trans H; rw [hy216]; with_reducible exact H2_) | (have H2_ := (Option.bind_some _ _).symm.trans H; with_reducible exact H2_) | with_reducible exact H | (rw [hy216]; exact H) | exact H
          have Ny216 := Aside0.mk hy216
          clear hy216
          by_cases c9 : y216.length + l1.length < 17592186044416
          · rw [if_pos c9] at H
            have LMc9 := Aside0.mk c9
            clear c9
            obtain ⟨y219, hy219⟩ : ∃ y_ : List Int, y_ = (y216 ++ l1) := ⟨_, rfl⟩
            replace H : ((state_New.f kj4 l0 y219).bind fun bt222 => (backsteplaw10_StateStarts.l0 kj4 l0 l1 y219 bt222.2.2.2 0 bt222.1 bt222.2.1 bt222.2.2.1)) = some r := by first | (rw [hy219]; with_reducible exact H) | (have H2_ := (Option.bind_some _ _).symm.trans H; rw [hy219]; with_reducible exact H2_) | (have H2_ := (Option.bind_some _ _).symm.trans H; with_reducible exact H2_) | with_reducible exact H | (rw [hy219]; exact H) | exact H
            have Ny219 := Aside0.mk hy219
            clear hy219
            replace H := Option.bind_eq_some_iff.mp H
            obtain ⟨⟨t222, t225, t228, t231⟩, A100, H⟩ := H
            replace H : (backsteplaw10_StateStarts.l0 kj4 l0 l1 y219 t231 0 t222 t225 t228) = some r := H
            have A10 := Aside0.mk A100
            clear A100
            have H' := Aside0.mk H
            clear H
            go_wp2_with (first | ((with_reducible refine gate_dst (N := 21) rfl ?_); (try (refine gate_guard (by rfl) ?_; dsimp only)); refine Kd.R_lit (Kd.int .i64) _ 3 ?hg (N := 21) ?hd (xs := ([] : List Int)) (inner := []) (ok := fun _ => True) (okp := fun _ => True) ?hr ?hp (fun _ hk => hk) trivial (Below.refl _ _) (Nat.le_refl _) (by simp) ?_; (case hd => rfl); (case hg => rfl); (case hr => first | (go_simp; done) | (go_simp; rfl)); (case hp => exact (Reps.none _ _)); intro v217 w11 ho12 hb hg_ hnew_; clear hg_ hnew_; (first | rw [← Ny216.out] at ho12 | (simp only [Int.reduceToNat] at ho12; rw [← Ny216.out] at ho12)); have n0_ := Aside0.mk (Kd.R_lower ho12 (below_size (by repeat (first | (with_reducible first | exact HB.out | apply below_alloc | apply pw_below_drewN | apply below_drew1) | exact HB.out)))); have n1_ := Aside0.mk (below_step (by repeat (first | (with_reducible first | exact HB.out | apply below_alloc | apply pw_below_drewN | apply below_drew1) | exact HB.out)) hb); clear HB; have HO218 := n0_; have HB := n1_; clear n0_ n1_; clear hb ho12) | ((with_reducible refine gate_builtin (b := .append) (xs := #[.tmp 21, .tmp 22]) rfl ?_); (try (refine gate_guard (by rfl) ?_; dsimp only)); at_builtin; refine Kd.R_append_rows (Kd.int .i64) (w0 := w) w.heap.size rfl (.tmp 21) (.tmp 22) 23 3 (.int .i64 0) 8 rfl Try.underlying23 info3 rfl (by decide) (by omega) v217 y216 l1 _ _ _ (fun _ => True) (fun _ => False) rfl rfl ?aO ?aR (fun _ _ h => h) (fun _ h => h.elim) ?aF ?aB ?aS ?aL ?_; (case aR => repeat (first | exact (Kd.C_below HR1.out HB.out) | (with_reducible refine Kd.C_alloc ?_ _) | (with_reducible refine Kd.C_drewN ?_ _) | (with_reducible refine Kd.C_drew ?_))); (case aB => exact (by repeat (first | (with_reducible first | exact HB.out | apply below_alloc | apply pw_below_drewN | apply below_drew1) | exact HB.out))); (case aF => exact (fun _ _ => trivial)); (case aO => exact (by (with_reducible repeat (first | apply Kd.R_alloc | apply Kd.R_drewN | apply Kd.R_drew)); exact HO218.out)); (case aS => exact (below_size (by repeat (first | (with_reducible first | exact HB.out | apply below_alloc | apply pw_below_drewN | apply below_drew1) | exact HB.out)))); (case aL => have := LMc9.out; omega); intro v220 w13 ho hb hg hat; rw [← Ny219.out] at ho; have n0_ := Aside0.mk (hb); have n1_ := Aside0.mk (ho); clear HB; clear HO218; have HB := n0_; have HO221 := n1_; clear n0_ n1_; clear ho hb hg hat; obtain ⟨Ao14, co14, eo14⟩ := Kd.R_slice HO221.out; subst eo14) | ((with_reducible refine gate_callee (f := 18) rfl ?_); refine goesL_ (some 27) rfl rfl Try.func18 (by kernel_rfl) rfl #[.slice A0 l0.length c0, .slice Ao14 y219.length co14] rfl (by (try simp only [List.map_toArray, List.map_cons, List.map_nil]); first | done | rfl | (simp only [List.length_drop, List.length_take]; rfl)) ?_; (with_reducible refine (state_New.calls kj4 _ _ l0 _ _ y219 t222 t225 t228 t231 _ ?side1 ?side2 ?side3 ?side4 A10.out).mono ?_); (case side1 => repeat (first | exact (Kd.C_below HR0.out HB.out) | (with_reducible refine Kd.C_alloc ?_ _) | (with_reducible refine Kd.C_drewN ?_ _) | (with_reducible refine Kd.C_drew ?_))); (case side2 => exact HC0.out); (case side3 => repeat (first | exact (Kd.R_reads' HO221.out).2.2 | (with_reducible refine Kd.C_alloc ?_ _) | (with_reducible refine Kd.C_drewN ?_ _) | (with_reducible refine Kd.C_drew ?_))); (case side4 => exact (Kd.R_reads' HO221.out).2.1); rintro e w15 ⟨v223, v226, v229, rfl, ho0, ho1, ho2, hb⟩; refine ⟨_, rfl, ?_⟩; have n0_ := Aside0.mk (Kd.R_mono (Kd.R_told (Kd.R_told (Kd.R_old (by (with_reducible repeat (first | apply Kd.R_alloc | apply Kd.R_drewN | apply Kd.R_drew)); exact HO221.out) hb) (Kd.R_base ho1)) (Kd.R_base ho2)) (fun _ h_ => h_.1)); have n1_ := Aside0.mk (Kd.S_lower (Kd.S_new' ho0 (Kd.R_lt (by (with_reducible repeat (first | apply Kd.R_alloc | apply Kd.R_drewN | apply Kd.R_drew)); exact HO221.out))) (below_size (by repeat (first | (with_reducible first | exact HB.out | apply below_alloc | apply pw_below_drewN | apply below_drew1) | exact HB.out)))); have n2_ := Aside0.mk (Kd.R_lower (Kd.R_new' ho1 (Kd.R_lt (by (with_reducible repeat (first | apply Kd.R_alloc | apply Kd.R_drewN | apply Kd.R_drew)); exact HO221.out))) (below_size (by repeat (first | (with_reducible first | exact HB.out | apply below_alloc | apply pw_below_drewN | apply below_drew1) | exact HB.out)))); have n3_ := Aside0.mk (Kd.R_lower (Kd.R_new' ho2 (Kd.R_lt (by (with_reducible repeat (first | apply Kd.R_alloc | apply Kd.R_drewN | apply Kd.R_drew)); exact HO221.out))) (below_size (by repeat (first | (with_reducible first | exact HB.out | apply below_alloc | apply pw_below_drewN | apply below_drew1) | exact HB.out)))); have n4_ := Aside0.mk (below_step (by repeat (first | (with_reducible first | exact HB.out | apply below_alloc | apply pw_below_drewN | apply below_drew1) | exact HB.out)) hb); clear HO221; clear HB; have HO221 := n0_; have HO224 := n1_; have HO227 := n2_; have HO230 := n3_; have HB := n4_; clear n0_ n1_ n2_ n3_ n4_; (try clear hb); (try clear hb2); (try clear hk); (try clear hi); (try clear ho0); (try clear ho1); (try clear ho2)) | ((with_reducible refine gate_dst (N := 6) rfl ?_); (try (refine gate_guard (by rfl) ?_; dsimp only)); refine box_event ?hg (N := 6) ?hd (cs := #[.slice none 0 0, .slice none 0 0, .slice none 0 0]) (t := 25) ?hr ?_; (case hd => rfl); (case hg => rfl); (case hr => first | (go_simp; done) | (go_simp; rfl)); intro gb232 hg w16 hbox hb; have n0_ := Aside0.mk (Kd.R_below (by (with_reducible repeat (first | apply Kd.R_alloc | apply Kd.R_drewN | apply Kd.R_drew)); exact HO221.out) hb); have n1_ := Aside0.mk (Kd.S_below (by (with_reducible repeat (first | apply Kd.S_alloc | apply Kd.S_drewN | apply Kd.S_drew)); exact HO224.out) hb); have n2_ := Aside0.mk (Kd.R_below (by (with_reducible repeat (first | apply Kd.R_alloc | apply Kd.R_drewN | apply Kd.R_drew)); exact HO227.out) hb); have n3_ := Aside0.mk (Kd.R_below (by (with_reducible repeat (first | apply Kd.R_alloc | apply Kd.R_drewN | apply Kd.R_drew)); exact HO230.out) hb); have n4_ := Aside0.mk (below_step (by repeat (first | (with_reducible first | exact HB.out | apply below_alloc | apply pw_below_drewN | apply below_drew1) | exact HB.out)) hb); have n5_ := Aside0.mk (hbox); have n6_ := Aside0.mk ((by rw [hg]; exact (below_size (by repeat (first | (with_reducible first | exact HB.out | apply below_alloc | apply pw_below_drewN | apply below_drew1) | exact HB.out))) : w.heap.size ≤ gb232)); have n7_ := Aside0.mk ((by rw [hg]; exact (below_size (by repeat (first | (with_reducible first | exact HB.out | apply below_alloc | apply pw_below_drewN | apply below_drew1) | exact HB.out))) : w.heap.size ≤ gb232)); clear HO221; clear HO224; clear HO227; clear HO230; clear HB; have HO221 := n0_; have HO224 := n1_; have HO227 := n2_; have HO230 := n3_; have HB := n4_; have BK232 := n5_; have GW232 := n6_; have GE232 := n7_; clear n0_ n1_ n2_ n3_ n4_ n5_ n6_ n7_; clear hb hbox hg; obtain ⟨Ao17, co17, eo17⟩ := Kd.S_slice HO224.out; subst eo17; have hcz18_0 : w16.cell? ⟨gb232, 0, none⟩ = some (.slice none 0 0) := (blk_cell BK232.out 0).trans rfl; have hcz18_1 : w16.cell? ⟨gb232, 1, none⟩ = some (.slice none 0 0) := (blk_cell BK232.out 1).trans rfl; have hcz18_2 : w16.cell? ⟨gb232, 2, none⟩ = some (.slice none 0 0) := (blk_cell BK232.out 2).trans rfl; have hfz18_0 := blk_frozen BK232.out 0; have hfz18_1 := blk_frozen BK232.out 1; have hfz18_2 := blk_frozen BK232.out 2; obtain ⟨Ao19, co19, eo19⟩ := Kd.R_slice HO227.out; subst eo19; obtain ⟨Ao20, co20, eo20⟩ := Kd.R_slice HO230.out; subst eo20))
            go_loopg [8] kj4 (fun kq v8 w' => ∃ (x5_2 : List Int) (x8_2 : Int), v8 = .int .i64 x8_2 ∧ Aside0 (backsteplaw10_StateStarts.l0 kq l0 l1 x5_2 t231 x8_2 t222 t225 t228 = some r) ∧ Aside0 (kq ≤ kj4) ∧ Aside0 (Kd.R (Kd.int .i64) 3 w' w.heap.size (fun k_ => some k_ ≠ ((.slice Ao19 t225.length co19) : Value).ownBlock ∧ some k_ ≠ ((.slice Ao20 t228.length co20) : Value).ownBlock) (.slice Ao14 y219.length co14) x5_2) ∧ Aside0 (Kd.S (Kd.slice 3 (Kd.int .i64)) 23 w' w.heap.size (fun k_ => some k_ ≠ ((.slice Ao14 y219.length co14) : Value).ownBlock ∧ some k_ ≠ ((.slice Ao19 t225.length co19) : Value).ownBlock ∧ some k_ ≠ ((.slice Ao20 t228.length co20) : Value).ownBlock) (.slice Ao17 t222.length co17) t222) ∧ Aside0 (Kd.R (Kd.int .i64) 3 w' w.heap.size (fun k_ => some k_ ≠ ((.slice Ao14 y219.length co14) : Value).ownBlock ∧ some k_ ≠ ((.slice Ao20 t228.length co20) : Value).ownBlock) (.slice Ao19 t225.length co19) t225) ∧ Aside0 (Kd.R (Kd.int .i64) 3 w' w.heap.size (fun k_ => some k_ ≠ ((.slice Ao14 y219.length co14) : Value).ownBlock ∧ some k_ ≠ ((.slice Ao19 t225.length co19) : Value).ownBlock) (.slice Ao20 t228.length co20) t228) ∧ Aside0 (w'.heap[gb232]? = some (.cells #[(.slice Ao17 t222.length co17), (.slice Ao19 t225.length co19), (.slice Ao20 t228.length co20)] 25 (0, 0))) ∧ Aside0 (Below w.heap.size w w'))
            case atStart => exact ⟨(y219), (0), (by first | rfl | (simp; done) | (simp [*]; done)), H', ⟨Nat.le_refl _⟩, ⟨by (with_reducible repeat (first | apply Kd.R_alloc | apply Kd.R_drewN | apply Kd.R_drew)); exact Kd.R_mono (Kd.R_far (p := ⟨gb232, 2, none⟩) (Kd.R_far (p := ⟨gb232, 1, none⟩) (Kd.R_far (p := ⟨gb232, 0, none⟩) (Kd.R_types HO221.out BK232.out (by decide)) (fun _ hk => hk.2) (.slice Ao17 t222.length co17)) (fun _ hk => hk.2) (.slice Ao19 t225.length co19)) (fun _ hk => hk.2) (.slice Ao20 t228.length co20)) (fun _ hk => ⟨hk.1.1.2, hk.1.2⟩)⟩, ⟨by (with_reducible repeat (first | apply Kd.S_alloc | apply Kd.S_drewN | apply Kd.S_drew)); exact Kd.S_mono (Kd.S_far (p := ⟨gb232, 2, none⟩) (Kd.S_far (p := ⟨gb232, 1, none⟩) (Kd.S_far (p := ⟨gb232, 0, none⟩) (Kd.S_types HO224.out BK232.out (by decide)) (fun _ hk => hk.2) (.slice Ao17 t222.length co17)) (fun _ hk => hk.2) (.slice Ao19 t225.length co19)) (fun _ hk => hk.2) (.slice Ao20 t228.length co20)) (fun _ hk => ⟨hk.1.2, ⟨hk.1.1.1, hk.1.1.2⟩⟩)⟩, ⟨by (with_reducible repeat (first | apply Kd.R_alloc | apply Kd.R_drewN | apply Kd.R_drew)); exact Kd.R_mono (Kd.R_far (p := ⟨gb232, 2, none⟩) (Kd.R_far (p := ⟨gb232, 1, none⟩) (Kd.R_far (p := ⟨gb232, 0, none⟩) (Kd.R_types HO227.out BK232.out (by decide)) (fun _ hk => hk.2) (.slice Ao17 t222.length co17)) (fun _ hk => hk.2) (.slice Ao19 t225.length co19)) (fun _ hk => hk.2) (.slice Ao20 t228.length co20)) (fun _ hk => ⟨hk.1.2, hk.1.1⟩)⟩, ⟨by (with_reducible repeat (first | apply Kd.R_alloc | apply Kd.R_drewN | apply Kd.R_drew)); exact Kd.R_mono (Kd.R_far (p := ⟨gb232, 2, none⟩) (Kd.R_far (p := ⟨gb232, 1, none⟩) (Kd.R_far (p := ⟨gb232, 0, none⟩) (Kd.R_types HO230.out BK232.out (by decide)) (fun _ hk => hk.2) (.slice Ao17 t222.length co17)) (fun _ hk => hk.2) (.slice Ao19 t225.length co19)) (fun _ hk => hk.2) (.slice Ao20 t228.length co20)) (fun _ hk => ⟨hk.1.2, hk.1.1⟩)⟩, ⟨by (with_reducible repeat (first | refine blk_drewN ?_ _ | refine blk_drew ?_ | refine blk_alloc ?_ _)); refine blk_put (cs := #[.slice Ao17 t222.length co17, .slice Ao19 t225.length co19, .slice none 0 0]) ?_ 2 _ rfl; (with_reducible repeat (first | refine blk_drewN ?_ _ | refine blk_drew ?_ | refine blk_alloc ?_ _)); refine blk_put (cs := #[.slice Ao17 t222.length co17, .slice none 0 0, .slice none 0 0]) ?_ 1 _ rfl; (with_reducible repeat (first | refine blk_drewN ?_ _ | refine blk_drew ?_ | refine blk_alloc ?_ _)); refine blk_put (cs := #[.slice none 0 0, .slice none 0 0, .slice none 0 0]) ?_ 0 _ rfl; (with_reducible repeat (first | refine blk_drewN ?_ _ | refine blk_drew ?_ | refine blk_alloc ?_ _)); exact BK232.out⟩, ⟨by repeat (first | (with_reducible first | exact HB.out | apply below_alloc | apply pw_below_drewN | apply below_drew1 | refine below_set ?_ GE232.out) | exact HB.out)⟩⟩
            case round =>
              clear H'
              try clear c1
              try clear p2
              try clear c4
              try clear c7
              try clear c7b0
              try clear c7b1
              try clear c8
              try clear c9
              try clear c13
              try clear c18
              try clear hcz18_0
              try clear hcz18_1
              try clear hcz18_2
              try clear hfz18_0
              try clear hfz18_1
              try clear hfz18_2
              try clear p2
              obtain ⟨x5_2, x8_2, rfl, HA, HK2, HO_5, HO_233000, HO_233001, HO_233002, BK232, HB⟩ := hrel
              have hl5_2 := (Kd.R_reads' HO_5.out).1
              rw [hl5_2] at HO_5
              (try simp only [hl5_2])
              (try simp only [hl5_2] at BK232)
              (try simp only [hl5_2] at HO_233000)
              (try simp only [hl5_2] at HO_233001)
              (try simp only [hl5_2] at HO_233002)
              cases gk with
              | zero => exact absurd HA.out (by simp [backsteplaw10_StateStarts.l0])
              | succ k2 =>
                have H := HA.out
                clear HA
                simp only [backsteplaw10_StateStarts.l0] at H
                by_cases c21 : x8_2 < (x5_2.length : Int)
                · rw [if_pos c21] at H
                  have c21b0 : decide (x8_2 < (x5_2.length : Int)) = true := decide_eq_true c21
                  clear c21
                  by_cases c22 : 0 ≤ x8_2
                  · rw [if_pos c22] at H
                    have c22b0 : decide (0 ≤ x8_2) = true := decide_eq_true c22
                    clear c22
                    obtain ⟨y234, hy234⟩ : ∃ y_ : List Int, y_ = (x5_2.set (x8_2 : Int).toNat (wrap64 ((rd x5_2 x8_2) + 1))) := ⟨_, rfl⟩
                    replace H : (backsteplaw10_StateStarts.l0 k2 l0 l1 y234 t231 (wrap64 (x8_2 + 1)) t222 t225 t228) = some r := by first | (rw [hy234]; with_reducible exact H) | (have H2_ := (Option.bind_some _ _).symm.trans H; rw [hy234]; with_reducible exact H2_) | (have H2_ := (Option.bind_some _ _).symm.trans H; with_reducible exact H2_) | with_reducible exact H | (rw [hy234]; exact H) | exact H
                    have Ny234 := Aside0.mk hy234
                    clear hy234
                    have H' := Aside0.mk H
                    clear H
                    have p233 : 0 ≤ (x8_2 : Int) := of_decide_eq_true (by first | (with_reducible assumption) | assumption)
                    have q233 : x8_2 < (x5_2.length : Int) := of_decide_eq_true (by first | (with_reducible assumption) | assumption)
                    obtain ⟨ad233, e233, hx233_0⟩ := Kd.at_int (Kd.R_reads' HO_5.out).2.2 x8_2 p233 q233
                    cases e233
                    replace p233 := eq_true p233
                    replace q233 := eq_true q233
                    have p23 : 0 ≤ (x8_2 : Int) := of_decide_eq_true (by first | (with_reducible assumption) | assumption)
                    have q23 : (x8_2 : Int) < ((x5_2.length : Int) : Int) := of_decide_eq_true (by first | (with_reducible assumption) | assumption)
                    obtain ⟨go23, co23, eo23, gb23, gl23, cl23, HG23⟩ := Kd.R_form HO_5.out (by omega)
                    (first | cases eo23 | (injection eo23 with ea_ en_ ec_; (first | subst ea_ | (injection ea_ with ea_; subst ea_)); subst ec_; clear en_))
                    have GB23 := Aside0.mk gb23
                    have GG23 := Aside0.mk HG23
                    clear gb23 gl23 HG23
                    (first | simp only [add_plain] at hx233_0 | skip)
                    obtain ⟨hx23_0, hf23_0⟩ := Kd.R_celln 0 HO_5.out (x8_2 : Int) p23 q23
                    replace p23 := eq_true p23
                    replace q23 := eq_true q23
                    have HP24 := Kd.R_putg HO_5.out (x8_2 : Int) (wrap64 ((rd x5_2 x8_2) + 1))
                    go_wp2_with (first | ((with_reducible refine gate_store (t := 3) (p := 41) rfl ?_); refine store_event (t := 3) (p := 41) (v := ?vo_w25) (w1 := (wr.setCell ⟨go23, (x8_2 : Int).toNat, none⟩ (.int .i64 (wrap64 ((rd x5_2 x8_2) + 1))))) ?hg ?ho ?hn ?hr ?_; (case ho => rfl); (case hg => rfl); (case hn => rfl); (case hr => first | (go_simp; done) | (go_simp; rfl)); intro w25 hw; have hg : wr.grownBy w25 (some go23) := (by rw [hw]; exact HP24.2); have hp_ : Kd.R (Kd.int .i64) 3 w25 w.heap.size (fun k_ => some k_ ≠ (.slice Ao19 t225.length co19 : Value).ownBlock ∧ some k_ ≠ (.slice Ao20 t228.length co20 : Value).ownBlock) (.slice (some ⟨go23, 0, none⟩) x5_2.length co14) y234 := (by rw [hw, Ny234.out]; exact HP24.1); clear HP24; have n0_ := Aside0.mk (hp_); have n1_ := Aside0.mk (Kd.S_after (v := (.slice (some ⟨go23, 0, none⟩) x5_2.length co14)) (v1 := (.slice (some ⟨go23, 0, none⟩) x5_2.length co14)) (ok := (fun k_ => some k_ ≠ (.slice Ao19 t225.length co19 : Value).ownBlock ∧ some k_ ≠ (.slice Ao20 t228.length co20 : Value).ownBlock)) (by (with_reducible repeat (first | apply Kd.S_alloc | apply Kd.S_drewN | apply Kd.S_drew)); exact Kd.S_mono HO_233000.out (fun _ hk => ⟨⟨hk.2.1, hk.2.2⟩, hk.1⟩)) hg (.inl rfl)); have n2_ := Aside0.mk (Kd.R_after (v := (.slice (some ⟨go23, 0, none⟩) x5_2.length co14)) (v1 := (.slice (some ⟨go23, 0, none⟩) x5_2.length co14)) (ok := (fun k_ => some k_ ≠ (.slice Ao20 t228.length co20 : Value).ownBlock)) (by (with_reducible repeat (first | apply Kd.R_alloc | apply Kd.R_drewN | apply Kd.R_drew)); exact Kd.R_mono HO_233001.out (fun _ hk => ⟨hk.2, hk.1⟩)) hg (.inl rfl)); have n3_ := Aside0.mk (Kd.R_after (v := (.slice (some ⟨go23, 0, none⟩) x5_2.length co14)) (v1 := (.slice (some ⟨go23, 0, none⟩) x5_2.length co14)) (ok := (fun k_ => some k_ ≠ (.slice Ao19 t225.length co19 : Value).ownBlock)) (by (with_reducible repeat (first | apply Kd.R_alloc | apply Kd.R_drewN | apply Kd.R_drew)); exact Kd.R_mono HO_233002.out (fun _ hk => ⟨hk.2, hk.1⟩)) hg (.inl rfl)); have n4_ := Aside0.mk (blk_grown (g := gb232) (o := .cells #[.slice Ao17 t222.length co17, .slice Ao19 t225.length co19, .slice Ao20 t228.length co20] 25 (0, 0)) (by (with_reducible repeat (first | refine blk_drewN ?_ _ | refine blk_drew ?_ | refine blk_alloc ?_ _)); exact BK232.out) hg (Kd.R_ne HO_5.out BK232.out (by decide))); have n5_ := Aside0.mk ((by rw [hw]; exact below_set (HB.out) GB23.out : Below w.heap.size w w25)); clear HO_5; clear HO_233000; clear HO_233001; clear HO_233002; clear BK232; clear HB; have HO_5 := n0_; have HO_233000 := n1_; have HO_233001 := n2_; have HO_233002 := n3_; have BK232 := n4_; have HB := n5_; clear n0_ n1_ n2_ n3_ n4_ n5_; clear hg hw hp_))
                    (try simp only [← hl5_2])
                    go_roundg k2
                    case measure => have := HJ4.out; have := HK2.out; omega
                    case rel => exact ⟨(y234), (wrap64 (x8_2 + 1)), (by first | rfl | (simp; done) | (simp [*]; done)), H', ⟨by have := HJ4.out; have := HK2.out; omega⟩, ⟨by (try simp only [hl5_2]); (with_reducible repeat (first | apply Kd.R_alloc | apply Kd.R_drewN | apply Kd.R_drew)); exact HO_5.out⟩, ⟨by (try simp only [hl5_2]); (with_reducible repeat (first | apply Kd.S_alloc | apply Kd.S_drewN | apply Kd.S_drew)); exact Kd.S_mono HO_233000.out (fun _ hk => ⟨hk.2, ⟨hk.1.1, hk.1.2⟩⟩)⟩, ⟨by (try simp only [hl5_2]); (with_reducible repeat (first | apply Kd.R_alloc | apply Kd.R_drewN | apply Kd.R_drew)); exact Kd.R_mono HO_233001.out (fun _ hk => ⟨hk.2, hk.1⟩)⟩, ⟨by (try simp only [hl5_2]); (with_reducible repeat (first | apply Kd.R_alloc | apply Kd.R_drewN | apply Kd.R_drew)); exact Kd.R_mono HO_233002.out (fun _ hk => ⟨hk.2, hk.1⟩)⟩, ⟨by (try simp only [hl5_2]); (with_reducible repeat (first | refine blk_drewN ?_ _ | refine blk_drew ?_ | refine blk_alloc ?_ _)); exact BK232.out⟩, ⟨by repeat (first | (with_reducible first | exact HB.out | apply below_alloc | apply pw_below_drewN | apply below_drew1 | refine below_set ?_ GE232.out) | exact HB.out)⟩⟩
                  · rw [if_neg c22] at H
                    exact absurd H (by simp)
                · rw [if_neg c21] at H
                  have c21b0 : decide (x8_2 < (x5_2.length : Int)) = false := decide_eq_false c21
                  clear c21
                  replace H := Option.bind_eq_some_iff.mp H
                  obtain ⟨t235, A260, H⟩ := H
                  replace H : (if t235 = true then (if t231 = 0 then ((state_Fits.f k2 l0 t222 t225 t228).bind fun t237 => (if t237 = true then ((backstepref10_Fits.f k2 l0 t222 t225 t228).bind fun t238 => (if t238 = true then ((backstepref10_Ints.f k2 t225 l1).bind fun t239 => (if t239 = true then (backsteplaw10_StateStarts.j2 k2 l0 ((t228.length : Int) != 0) t222 t225 t228) else (backsteplaw10_StateStarts.j2 k2 l0 true t222 t225 t228))) else (backsteplaw10_StateStarts.j2 k2 l0 true t222 t225 t228))) else (backsteplaw10_StateStarts.j2 k2 l0 true t222 t225 t228))) else (backsteplaw10_StateStarts.j2 k2 l0 true t222 t225 t228)) else (if t231 = 3 then ((backstepref10_Equal.f k2 t222 t225 t228 ([] : List (List Int)) ([] : List Int) ([] : List Int)).bind fun t236 => (some t236)) else (some false))) = some r := H
                  have A26 := Aside0.mk A260
                  clear A260
                  by_cases c27 : t235 = true
                  · subst c27
                    have H1 : (if t231 = 0 then ((state_Fits.f k2 l0 t222 t225 t228).bind fun t237 => (if t237 = true then ((backstepref10_Fits.f k2 l0 t222 t225 t228).bind fun t238 => (if t238 = true then ((backstepref10_Ints.f k2 t225 l1).bind fun t239 => (if t239 = true then (backsteplaw10_StateStarts.j2 k2 l0 ((t228.length : Int) != 0) t222 t225 t228) else (backsteplaw10_StateStarts.j2 k2 l0 true t222 t225 t228))) else (backsteplaw10_StateStarts.j2 k2 l0 true t222 t225 t228))) else (backsteplaw10_StateStarts.j2 k2 l0 true t222 t225 t228))) else (backsteplaw10_StateStarts.j2 k2 l0 true t222 t225 t228)) = some r := by rw [if_pos rfl] at H; exact H
                    clear H
                    have H := H1
                    clear H1
                    have HC28 := Aside0.mk H
                    clear H
                    go_upto_region 13 with (first | ((with_reducible refine gate_callee (f := 19) rfl ?_); refine goesL_ (some 43) rfl rfl Try.func19 (by kernel_rfl) rfl #[.slice A0 l0.length c0] rfl (by (try simp only [List.map_toArray, List.map_cons, List.map_nil]); first | done | rfl | (simp only [List.length_drop, List.length_take]; rfl)) ?_; (with_reducible refine (backstepref10_Valid.calls k2 _ _ l0 true _ ?side1 ?side2 A26.out).mono ?_); (case side1 => repeat (first | exact (Kd.C_below HR0.out HB.out) | (with_reducible refine Kd.C_alloc ?_ _) | (with_reducible refine Kd.C_drewN ?_ _) | (with_reducible refine Kd.C_drew ?_))); (case side2 => exact HC0.out); rintro e w29 ⟨rfl, hb⟩; refine ⟨_, rfl, ?_⟩; have n0_ := Aside0.mk (Kd.R_below (by (with_reducible repeat (first | apply Kd.R_alloc | apply Kd.R_drewN | apply Kd.R_drew)); exact HO_5.out) hb); have n1_ := Aside0.mk (Kd.S_below (by (with_reducible repeat (first | apply Kd.S_alloc | apply Kd.S_drewN | apply Kd.S_drew)); exact HO_233000.out) hb); have n2_ := Aside0.mk (Kd.R_below (by (with_reducible repeat (first | apply Kd.R_alloc | apply Kd.R_drewN | apply Kd.R_drew)); exact HO_233001.out) hb); have n3_ := Aside0.mk (Kd.R_below (by (with_reducible repeat (first | apply Kd.R_alloc | apply Kd.R_drewN | apply Kd.R_drew)); exact HO_233002.out) hb); have n4_ := Aside0.mk (blk_below (g := gb232) (o := .cells #[.slice Ao17 t222.length co17, .slice Ao19 t225.length co19, .slice Ao20 t228.length co20] 25 (0, 0)) (by (with_reducible repeat (first | refine blk_drewN ?_ _ | refine blk_drew ?_ | refine blk_alloc ?_ _)); exact BK232.out) hb); have n5_ := Aside0.mk (below_step (by repeat (first | (with_reducible first | exact HB.out | apply below_alloc | apply pw_below_drewN | apply below_drew1 | refine below_set ?_ GE232.out) | exact HB.out)) hb); clear HO_5; clear HO_233000; clear HO_233001; clear HO_233002; clear BK232; clear HB; have HO_5 := n0_; have HO_233000 := n1_; have HO_233001 := n2_; have HO_233002 := n3_; have BK232 := n4_; have HB := n5_; clear n0_ n1_ n2_ n3_ n4_ n5_; (try clear hb); (try clear hb2); (try clear hk); (try clear hi)))
                    (try simp only [Act.put, List.setIfInBounds_toArray, List.set_cons_zero, List.set_cons_succ])
                    go_cut [78] (fun v78 wc => ∃ (kq : Nat) (x78_27 : Bool), v78 = .bool x78_27 ∧ Aside0 (backsteplaw10_StateStarts.j2 kq l0 x78_27 t222 t225 t228 = some r) ∧ Aside0 (kq ≤ k2) ∧ Aside0 (Kd.S (Kd.slice 3 (Kd.int .i64)) 23 wc w.heap.size (fun k_ => some k_ ≠ ((.slice Ao19 t225.length co19) : Value).ownBlock ∧ some k_ ≠ ((.slice Ao20 t228.length co20) : Value).ownBlock) (.slice Ao17 t222.length co17) t222) ∧ Aside0 (Kd.R (Kd.int .i64) 3 wc w.heap.size (fun k_ => some k_ ≠ ((.slice Ao20 t228.length co20) : Value).ownBlock) (.slice Ao19 t225.length co19) t225) ∧ Aside0 (Kd.R (Kd.int .i64) 3 wc w.heap.size (fun k_ => some k_ ≠ ((.slice Ao19 t225.length co19) : Value).ownBlock) (.slice Ao20 t228.length co20) t228) ∧ Aside0 (wc.heap[gb232]? = some (.cells #[(.slice Ao17 t222.length co17), (.slice Ao19 t225.length co19), (.slice Ao20 t228.length co20)] 25 (0, 0))) ∧ Aside0 (Below w.heap.size w wc))
                    case first =>
                      have H := HC28.out
                      clear HC28
                      by_cases c30 : t231 = 0
                      · rw [if_pos c30] at H
                        have c30b0 : (t231 == 0) = true := beq_iff_eq.mpr c30
                        have c30b1 : (t231 != 0) = false := bne_eq_false_iff_eq.mpr c30
                        clear c30
                        (first | rw [c30b0] | (simp only [i64_w, i32_w]; rw [c30b0]) | skip)
                        replace H := Option.bind_eq_some_iff.mp H
                        obtain ⟨t237, A310, H⟩ := H
                        replace H : (if t237 = true then ((backstepref10_Fits.f k2 l0 t222 t225 t228).bind fun t238 => (if t238 = true then ((backstepref10_Ints.f k2 t225 l1).bind fun t239 => (if t239 = true then (backsteplaw10_StateStarts.j2 k2 l0 ((t228.length : Int) != 0) t222 t225 t228) else (backsteplaw10_StateStarts.j2 k2 l0 true t222 t225 t228))) else (backsteplaw10_StateStarts.j2 k2 l0 true t222 t225 t228))) else (backsteplaw10_StateStarts.j2 k2 l0 true t222 t225 t228)) = some r := H
                        have A31 := Aside0.mk A310
                        clear A310
                        by_cases c32 : t237 = true
                        · subst c32
                          have H1 : ((backstepref10_Fits.f k2 l0 t222 t225 t228).bind fun t238 => (if t238 = true then ((backstepref10_Ints.f k2 t225 l1).bind fun t239 => (if t239 = true then (backsteplaw10_StateStarts.j2 k2 l0 ((t228.length : Int) != 0) t222 t225 t228) else (backsteplaw10_StateStarts.j2 k2 l0 true t222 t225 t228))) else (backsteplaw10_StateStarts.j2 k2 l0 true t222 t225 t228))) = some r := by rw [if_pos rfl] at H; exact H
                          clear H
                          have H := H1
                          clear H1
                          replace H := Option.bind_eq_some_iff.mp H
                          obtain ⟨t238, A330, H⟩ := H
                          replace H : (if t238 = true then ((backstepref10_Ints.f k2 t225 l1).bind fun t239 => (if t239 = true then (backsteplaw10_StateStarts.j2 k2 l0 ((t228.length : Int) != 0) t222 t225 t228) else (backsteplaw10_StateStarts.j2 k2 l0 true t222 t225 t228))) else (backsteplaw10_StateStarts.j2 k2 l0 true t222 t225 t228)) = some r := H
                          have A33 := Aside0.mk A330
                          clear A330
                          by_cases c34 : t238 = true
                          · subst c34
                            have H1 : ((backstepref10_Ints.f k2 t225 l1).bind fun t239 => (if t239 = true then (backsteplaw10_StateStarts.j2 k2 l0 ((t228.length : Int) != 0) t222 t225 t228) else (backsteplaw10_StateStarts.j2 k2 l0 true t222 t225 t228))) = some r := by rw [if_pos rfl] at H; exact H
                            clear H
                            have H := H1
                            clear H1
                            replace H := Option.bind_eq_some_iff.mp H
                            obtain ⟨t239, A350, H⟩ := H
                            replace H : (if t239 = true then (backsteplaw10_StateStarts.j2 k2 l0 ((t228.length : Int) != 0) t222 t225 t228) else (backsteplaw10_StateStarts.j2 k2 l0 true t222 t225 t228)) = some r := H
                            have A35 := Aside0.mk A350
                            clear A350
                            by_cases c36 : t239 = true
                            · subst c36
                              have H1 : (backsteplaw10_StateStarts.j2 k2 l0 ((t228.length : Int) != 0) t222 t225 t228) = some r := by rw [if_pos rfl] at H; exact H
                              clear H
                              have H := H1
                              clear H1
                              have H' := Aside0.mk H
                              clear H
                              have hcz37_0 : w29.cell? ⟨gb232, 0, none⟩ = some (.slice Ao17 t222.length co17) := (blk_cell BK232.out 0).trans rfl
                              have hcz37_1 : w29.cell? ⟨gb232, 1, none⟩ = some (.slice Ao19 t225.length co19) := (blk_cell BK232.out 1).trans rfl
                              have hcz37_2 : w29.cell? ⟨gb232, 2, none⟩ = some (.slice Ao20 t228.length co20) := (blk_cell BK232.out 2).trans rfl
                              have hfz37_0 := blk_frozen BK232.out 0
                              have hfz37_1 := blk_frozen BK232.out 1
                              have hfz37_2 := blk_frozen BK232.out 2
                              go_wp2_with (first | (go_at_call 21; (with_reducible refine (state_Fits.calls k2 _ _ l0 _ _ t222 _ _ t225 _ _ t228 true _ ?side1 ?side2 ?side3 ?side4 ?side5 ?side6 ?side7 ?side8 A31.out).mono ?_); (case side1 => repeat (first | exact (Kd.C_below HR0.out HB.out) | (with_reducible refine Kd.C_alloc ?_ _) | (with_reducible refine Kd.C_drewN ?_ _) | (with_reducible refine Kd.C_drew ?_))); (case side2 => exact HC0.out); (case side3 => repeat (first | exact (Kd.S_reads' HO_233000.out).2.2 | (with_reducible refine Kd.C_alloc ?_ _) | (with_reducible refine Kd.C_drewN ?_ _) | (with_reducible refine Kd.C_drew ?_))); (case side4 => exact (Kd.S_reads' HO_233000.out).2.1); (case side5 => repeat (first | exact (Kd.R_reads' HO_233001.out).2.2 | (with_reducible refine Kd.C_alloc ?_ _) | (with_reducible refine Kd.C_drewN ?_ _) | (with_reducible refine Kd.C_drew ?_))); (case side6 => exact (Kd.R_reads' HO_233001.out).2.1); (case side7 => repeat (first | exact (Kd.R_reads' HO_233002.out).2.2 | (with_reducible refine Kd.C_alloc ?_ _) | (with_reducible refine Kd.C_drewN ?_ _) | (with_reducible refine Kd.C_drew ?_))); (case side8 => exact (Kd.R_reads' HO_233002.out).2.1); rintro e w38 ⟨rfl, hb⟩; have n0_ := Aside0.mk (Kd.R_below (by (with_reducible repeat (first | apply Kd.R_alloc | apply Kd.R_drewN | apply Kd.R_drew)); exact HO_5.out) hb); have n1_ := Aside0.mk (Kd.S_below (by (with_reducible repeat (first | apply Kd.S_alloc | apply Kd.S_drewN | apply Kd.S_drew)); exact HO_233000.out) hb); have n2_ := Aside0.mk (Kd.R_below (by (with_reducible repeat (first | apply Kd.R_alloc | apply Kd.R_drewN | apply Kd.R_drew)); exact HO_233001.out) hb); have n3_ := Aside0.mk (Kd.R_below (by (with_reducible repeat (first | apply Kd.R_alloc | apply Kd.R_drewN | apply Kd.R_drew)); exact HO_233002.out) hb); have n4_ := Aside0.mk (blk_below (g := gb232) (o := .cells #[.slice Ao17 t222.length co17, .slice Ao19 t225.length co19, .slice Ao20 t228.length co20] 25 (0, 0)) (by (with_reducible repeat (first | refine blk_drewN ?_ _ | refine blk_drew ?_ | refine blk_alloc ?_ _)); exact BK232.out) hb); have n5_ := Aside0.mk (below_step (by repeat (first | (with_reducible first | exact HB.out | apply below_alloc | apply pw_below_drewN | apply below_drew1 | refine below_set ?_ GE232.out) | exact HB.out)) hb); clear HO_5; clear HO_233000; clear HO_233001; clear HO_233002; clear BK232; clear HB; have HO_5 := n0_; have HO_233000 := n1_; have HO_233001 := n2_; have HO_233002 := n3_; have BK232 := n4_; have HB := n5_; clear n0_ n1_ n2_ n3_ n4_ n5_; (try clear hb); (try clear hb2); (try clear hk); (try clear hi); have hcz39_0 : w38.cell? ⟨gb232, 0, none⟩ = some (.slice Ao17 t222.length co17) := (blk_cell BK232.out 0).trans rfl; have hcz39_1 : w38.cell? ⟨gb232, 1, none⟩ = some (.slice Ao19 t225.length co19) := (blk_cell BK232.out 1).trans rfl; have hcz39_2 : w38.cell? ⟨gb232, 2, none⟩ = some (.slice Ao20 t228.length co20) := (blk_cell BK232.out 2).trans rfl; have hfz39_0 := blk_frozen BK232.out 0; have hfz39_1 := blk_frozen BK232.out 1; have hfz39_2 := blk_frozen BK232.out 2) | (go_at_call 22; (with_reducible refine (backstepref10_Fits.calls k2 _ _ l0 _ _ t222 _ _ t225 _ _ t228 true _ ?side1 ?side2 ?side3 ?side4 ?side5 ?side6 ?side7 ?side8 A33.out).mono ?_); (case side1 => repeat (first | exact (Kd.C_below HR0.out HB.out) | (with_reducible refine Kd.C_alloc ?_ _) | (with_reducible refine Kd.C_drewN ?_ _) | (with_reducible refine Kd.C_drew ?_))); (case side2 => exact HC0.out); (case side3 => repeat (first | exact (Kd.S_reads' HO_233000.out).2.2 | (with_reducible refine Kd.C_alloc ?_ _) | (with_reducible refine Kd.C_drewN ?_ _) | (with_reducible refine Kd.C_drew ?_))); (case side4 => exact (Kd.S_reads' HO_233000.out).2.1); (case side5 => repeat (first | exact (Kd.R_reads' HO_233001.out).2.2 | (with_reducible refine Kd.C_alloc ?_ _) | (with_reducible refine Kd.C_drewN ?_ _) | (with_reducible refine Kd.C_drew ?_))); (case side6 => exact (Kd.R_reads' HO_233001.out).2.1); (case side7 => repeat (first | exact (Kd.R_reads' HO_233002.out).2.2 | (with_reducible refine Kd.C_alloc ?_ _) | (with_reducible refine Kd.C_drewN ?_ _) | (with_reducible refine Kd.C_drew ?_))); (case side8 => exact (Kd.R_reads' HO_233002.out).2.1); rintro e w40 ⟨rfl, hb⟩; have n0_ := Aside0.mk (Kd.R_below (by (with_reducible repeat (first | apply Kd.R_alloc | apply Kd.R_drewN | apply Kd.R_drew)); exact HO_5.out) hb); have n1_ := Aside0.mk (Kd.S_below (by (with_reducible repeat (first | apply Kd.S_alloc | apply Kd.S_drewN | apply Kd.S_drew)); exact HO_233000.out) hb); have n2_ := Aside0.mk (Kd.R_below (by (with_reducible repeat (first | apply Kd.R_alloc | apply Kd.R_drewN | apply Kd.R_drew)); exact HO_233001.out) hb); have n3_ := Aside0.mk (Kd.R_below (by (with_reducible repeat (first | apply Kd.R_alloc | apply Kd.R_drewN | apply Kd.R_drew)); exact HO_233002.out) hb); have n4_ := Aside0.mk (blk_below (g := gb232) (o := .cells #[.slice Ao17 t222.length co17, .slice Ao19 t225.length co19, .slice Ao20 t228.length co20] 25 (0, 0)) (by (with_reducible repeat (first | refine blk_drewN ?_ _ | refine blk_drew ?_ | refine blk_alloc ?_ _)); exact BK232.out) hb); have n5_ := Aside0.mk (below_step (by repeat (first | (with_reducible first | exact HB.out | apply below_alloc | apply pw_below_drewN | apply below_drew1 | refine below_set ?_ GE232.out) | exact HB.out)) hb); clear HO_5; clear HO_233000; clear HO_233001; clear HO_233002; clear BK232; clear HB; have HO_5 := n0_; have HO_233000 := n1_; have HO_233001 := n2_; have HO_233002 := n3_; have BK232 := n4_; have HB := n5_; clear n0_ n1_ n2_ n3_ n4_ n5_; (try clear hb); (try clear hb2); (try clear hk); (try clear hi); have hcz41_0 : w40.cell? ⟨gb232, 0, none⟩ = some (.slice Ao17 t222.length co17) := (blk_cell BK232.out 0).trans rfl; have hcz41_1 : w40.cell? ⟨gb232, 1, none⟩ = some (.slice Ao19 t225.length co19) := (blk_cell BK232.out 1).trans rfl; have hcz41_2 : w40.cell? ⟨gb232, 2, none⟩ = some (.slice Ao20 t228.length co20) := (blk_cell BK232.out 2).trans rfl; have hfz41_0 := blk_frozen BK232.out 0; have hfz41_1 := blk_frozen BK232.out 1; have hfz41_2 := blk_frozen BK232.out 2) | (go_at_call 23; (with_reducible refine (backstepref10_Ints.calls k2 _ _ t225 _ _ l1 true _ ?side1 ?side2 ?side3 ?side4 A35.out).mono ?_); (case side1 => repeat (first | exact (Kd.R_reads' HO_233001.out).2.2 | (with_reducible refine Kd.C_alloc ?_ _) | (with_reducible refine Kd.C_drewN ?_ _) | (with_reducible refine Kd.C_drew ?_))); (case side2 => exact (Kd.R_reads' HO_233001.out).2.1); (case side3 => repeat (first | exact (Kd.C_below HR1.out HB.out) | (with_reducible refine Kd.C_alloc ?_ _) | (with_reducible refine Kd.C_drewN ?_ _) | (with_reducible refine Kd.C_drew ?_))); (case side4 => exact HC1.out); rintro e w' ⟨rfl, ⟨nd, rfl⟩⟩))
                              go_meet
                              case rel => exact ⟨_, (((t228.length : Int) != 0)), (by first | rfl | (simp; done) | (simp [*]; done)), H', ⟨by have := HJ4.out; have := HK2.out; first | omega | exact Nat.le_refl _⟩, ⟨by (try simp only [hl5_2]); (with_reducible repeat (first | apply Kd.S_alloc | apply Kd.S_drewN | apply Kd.S_drew)); exact Kd.S_mono HO_233000.out (fun _ hk => ⟨hk.2.1, hk.2.2⟩)⟩, ⟨by (try simp only [hl5_2]); (with_reducible repeat (first | apply Kd.R_alloc | apply Kd.R_drewN | apply Kd.R_drew)); exact Kd.R_mono HO_233001.out (fun _ hk => hk.2)⟩, ⟨by (try simp only [hl5_2]); (with_reducible repeat (first | apply Kd.R_alloc | apply Kd.R_drewN | apply Kd.R_drew)); exact Kd.R_mono HO_233002.out (fun _ hk => hk.2)⟩, ⟨by (try simp only [hl5_2]); (with_reducible repeat (first | refine blk_drewN ?_ _ | refine blk_drew ?_ | refine blk_alloc ?_ _)); exact BK232.out⟩, ⟨by repeat (first | (with_reducible first | exact HB.out | apply below_alloc | apply pw_below_drewN | apply below_drew1 | refine below_set ?_ GE232.out) | exact HB.out)⟩⟩
                            · replace c36 := Bool.eq_false_iff.mpr c36
                              subst c36
                              have H1 : (backsteplaw10_StateStarts.j2 k2 l0 true t222 t225 t228) = some r := by rw [if_neg (show ¬ (false = true) by decide)] at H; exact H
                              clear H
                              have H := H1
                              clear H1
                              have H' := Aside0.mk H
                              clear H
                              have hcz42_0 : w29.cell? ⟨gb232, 0, none⟩ = some (.slice Ao17 t222.length co17) := (blk_cell BK232.out 0).trans rfl
                              have hcz42_1 : w29.cell? ⟨gb232, 1, none⟩ = some (.slice Ao19 t225.length co19) := (blk_cell BK232.out 1).trans rfl
                              have hcz42_2 : w29.cell? ⟨gb232, 2, none⟩ = some (.slice Ao20 t228.length co20) := (blk_cell BK232.out 2).trans rfl
                              have hfz42_0 := blk_frozen BK232.out 0
                              have hfz42_1 := blk_frozen BK232.out 1
                              have hfz42_2 := blk_frozen BK232.out 2
                              go_wp2_with (first | (go_at_call 21; (with_reducible refine (state_Fits.calls k2 _ _ l0 _ _ t222 _ _ t225 _ _ t228 true _ ?side1 ?side2 ?side3 ?side4 ?side5 ?side6 ?side7 ?side8 A31.out).mono ?_); (case side1 => repeat (first | exact (Kd.C_below HR0.out HB.out) | (with_reducible refine Kd.C_alloc ?_ _) | (with_reducible refine Kd.C_drewN ?_ _) | (with_reducible refine Kd.C_drew ?_))); (case side2 => exact HC0.out); (case side3 => repeat (first | exact (Kd.S_reads' HO_233000.out).2.2 | (with_reducible refine Kd.C_alloc ?_ _) | (with_reducible refine Kd.C_drewN ?_ _) | (with_reducible refine Kd.C_drew ?_))); (case side4 => exact (Kd.S_reads' HO_233000.out).2.1); (case side5 => repeat (first | exact (Kd.R_reads' HO_233001.out).2.2 | (with_reducible refine Kd.C_alloc ?_ _) | (with_reducible refine Kd.C_drewN ?_ _) | (with_reducible refine Kd.C_drew ?_))); (case side6 => exact (Kd.R_reads' HO_233001.out).2.1); (case side7 => repeat (first | exact (Kd.R_reads' HO_233002.out).2.2 | (with_reducible refine Kd.C_alloc ?_ _) | (with_reducible refine Kd.C_drewN ?_ _) | (with_reducible refine Kd.C_drew ?_))); (case side8 => exact (Kd.R_reads' HO_233002.out).2.1); rintro e w43 ⟨rfl, hb⟩; have n0_ := Aside0.mk (Kd.R_below (by (with_reducible repeat (first | apply Kd.R_alloc | apply Kd.R_drewN | apply Kd.R_drew)); exact HO_5.out) hb); have n1_ := Aside0.mk (Kd.S_below (by (with_reducible repeat (first | apply Kd.S_alloc | apply Kd.S_drewN | apply Kd.S_drew)); exact HO_233000.out) hb); have n2_ := Aside0.mk (Kd.R_below (by (with_reducible repeat (first | apply Kd.R_alloc | apply Kd.R_drewN | apply Kd.R_drew)); exact HO_233001.out) hb); have n3_ := Aside0.mk (Kd.R_below (by (with_reducible repeat (first | apply Kd.R_alloc | apply Kd.R_drewN | apply Kd.R_drew)); exact HO_233002.out) hb); have n4_ := Aside0.mk (blk_below (g := gb232) (o := .cells #[.slice Ao17 t222.length co17, .slice Ao19 t225.length co19, .slice Ao20 t228.length co20] 25 (0, 0)) (by (with_reducible repeat (first | refine blk_drewN ?_ _ | refine blk_drew ?_ | refine blk_alloc ?_ _)); exact BK232.out) hb); have n5_ := Aside0.mk (below_step (by repeat (first | (with_reducible first | exact HB.out | apply below_alloc | apply pw_below_drewN | apply below_drew1 | refine below_set ?_ GE232.out) | exact HB.out)) hb); clear HO_5; clear HO_233000; clear HO_233001; clear HO_233002; clear BK232; clear HB; have HO_5 := n0_; have HO_233000 := n1_; have HO_233001 := n2_; have HO_233002 := n3_; have BK232 := n4_; have HB := n5_; clear n0_ n1_ n2_ n3_ n4_ n5_; (try clear hb); (try clear hb2); (try clear hk); (try clear hi); have hcz44_0 : w43.cell? ⟨gb232, 0, none⟩ = some (.slice Ao17 t222.length co17) := (blk_cell BK232.out 0).trans rfl; have hcz44_1 : w43.cell? ⟨gb232, 1, none⟩ = some (.slice Ao19 t225.length co19) := (blk_cell BK232.out 1).trans rfl; have hcz44_2 : w43.cell? ⟨gb232, 2, none⟩ = some (.slice Ao20 t228.length co20) := (blk_cell BK232.out 2).trans rfl; have hfz44_0 := blk_frozen BK232.out 0; have hfz44_1 := blk_frozen BK232.out 1; have hfz44_2 := blk_frozen BK232.out 2) | (go_at_call 22; (with_reducible refine (backstepref10_Fits.calls k2 _ _ l0 _ _ t222 _ _ t225 _ _ t228 true _ ?side1 ?side2 ?side3 ?side4 ?side5 ?side6 ?side7 ?side8 A33.out).mono ?_); (case side1 => repeat (first | exact (Kd.C_below HR0.out HB.out) | (with_reducible refine Kd.C_alloc ?_ _) | (with_reducible refine Kd.C_drewN ?_ _) | (with_reducible refine Kd.C_drew ?_))); (case side2 => exact HC0.out); (case side3 => repeat (first | exact (Kd.S_reads' HO_233000.out).2.2 | (with_reducible refine Kd.C_alloc ?_ _) | (with_reducible refine Kd.C_drewN ?_ _) | (with_reducible refine Kd.C_drew ?_))); (case side4 => exact (Kd.S_reads' HO_233000.out).2.1); (case side5 => repeat (first | exact (Kd.R_reads' HO_233001.out).2.2 | (with_reducible refine Kd.C_alloc ?_ _) | (with_reducible refine Kd.C_drewN ?_ _) | (with_reducible refine Kd.C_drew ?_))); (case side6 => exact (Kd.R_reads' HO_233001.out).2.1); (case side7 => repeat (first | exact (Kd.R_reads' HO_233002.out).2.2 | (with_reducible refine Kd.C_alloc ?_ _) | (with_reducible refine Kd.C_drewN ?_ _) | (with_reducible refine Kd.C_drew ?_))); (case side8 => exact (Kd.R_reads' HO_233002.out).2.1); rintro e w45 ⟨rfl, hb⟩; have n0_ := Aside0.mk (Kd.R_below (by (with_reducible repeat (first | apply Kd.R_alloc | apply Kd.R_drewN | apply Kd.R_drew)); exact HO_5.out) hb); have n1_ := Aside0.mk (Kd.S_below (by (with_reducible repeat (first | apply Kd.S_alloc | apply Kd.S_drewN | apply Kd.S_drew)); exact HO_233000.out) hb); have n2_ := Aside0.mk (Kd.R_below (by (with_reducible repeat (first | apply Kd.R_alloc | apply Kd.R_drewN | apply Kd.R_drew)); exact HO_233001.out) hb); have n3_ := Aside0.mk (Kd.R_below (by (with_reducible repeat (first | apply Kd.R_alloc | apply Kd.R_drewN | apply Kd.R_drew)); exact HO_233002.out) hb); have n4_ := Aside0.mk (blk_below (g := gb232) (o := .cells #[.slice Ao17 t222.length co17, .slice Ao19 t225.length co19, .slice Ao20 t228.length co20] 25 (0, 0)) (by (with_reducible repeat (first | refine blk_drewN ?_ _ | refine blk_drew ?_ | refine blk_alloc ?_ _)); exact BK232.out) hb); have n5_ := Aside0.mk (below_step (by repeat (first | (with_reducible first | exact HB.out | apply below_alloc | apply pw_below_drewN | apply below_drew1 | refine below_set ?_ GE232.out) | exact HB.out)) hb); clear HO_5; clear HO_233000; clear HO_233001; clear HO_233002; clear BK232; clear HB; have HO_5 := n0_; have HO_233000 := n1_; have HO_233001 := n2_; have HO_233002 := n3_; have BK232 := n4_; have HB := n5_; clear n0_ n1_ n2_ n3_ n4_ n5_; (try clear hb); (try clear hb2); (try clear hk); (try clear hi); have hcz46_0 : w45.cell? ⟨gb232, 0, none⟩ = some (.slice Ao17 t222.length co17) := (blk_cell BK232.out 0).trans rfl; have hcz46_1 : w45.cell? ⟨gb232, 1, none⟩ = some (.slice Ao19 t225.length co19) := (blk_cell BK232.out 1).trans rfl; have hcz46_2 : w45.cell? ⟨gb232, 2, none⟩ = some (.slice Ao20 t228.length co20) := (blk_cell BK232.out 2).trans rfl; have hfz46_0 := blk_frozen BK232.out 0; have hfz46_1 := blk_frozen BK232.out 1; have hfz46_2 := blk_frozen BK232.out 2) | (go_at_call 23; (with_reducible refine (backstepref10_Ints.calls k2 _ _ t225 _ _ l1 false _ ?side1 ?side2 ?side3 ?side4 A35.out).mono ?_); (case side1 => repeat (first | exact (Kd.R_reads' HO_233001.out).2.2 | (with_reducible refine Kd.C_alloc ?_ _) | (with_reducible refine Kd.C_drewN ?_ _) | (with_reducible refine Kd.C_drew ?_))); (case side2 => exact (Kd.R_reads' HO_233001.out).2.1); (case side3 => repeat (first | exact (Kd.C_below HR1.out HB.out) | (with_reducible refine Kd.C_alloc ?_ _) | (with_reducible refine Kd.C_drewN ?_ _) | (with_reducible refine Kd.C_drew ?_))); (case side4 => exact HC1.out); rintro e w' ⟨rfl, ⟨nd, rfl⟩⟩))
                              go_meet
                              case rel => exact ⟨_, (true), (by first | rfl | (simp; done) | (simp [*]; done)), H', ⟨by have := HJ4.out; have := HK2.out; first | omega | exact Nat.le_refl _⟩, ⟨by (try simp only [hl5_2]); (with_reducible repeat (first | apply Kd.S_alloc | apply Kd.S_drewN | apply Kd.S_drew)); exact Kd.S_mono HO_233000.out (fun _ hk => ⟨hk.2.1, hk.2.2⟩)⟩, ⟨by (try simp only [hl5_2]); (with_reducible repeat (first | apply Kd.R_alloc | apply Kd.R_drewN | apply Kd.R_drew)); exact Kd.R_mono HO_233001.out (fun _ hk => hk.2)⟩, ⟨by (try simp only [hl5_2]); (with_reducible repeat (first | apply Kd.R_alloc | apply Kd.R_drewN | apply Kd.R_drew)); exact Kd.R_mono HO_233002.out (fun _ hk => hk.2)⟩, ⟨by (try simp only [hl5_2]); (with_reducible repeat (first | refine blk_drewN ?_ _ | refine blk_drew ?_ | refine blk_alloc ?_ _)); exact BK232.out⟩, ⟨by repeat (first | (with_reducible first | exact HB.out | apply below_alloc | apply pw_below_drewN | apply below_drew1 | refine below_set ?_ GE232.out) | exact HB.out)⟩⟩
                          · replace c34 := Bool.eq_false_iff.mpr c34
                            subst c34
                            have H1 : (backsteplaw10_StateStarts.j2 k2 l0 true t222 t225 t228) = some r := by rw [if_neg (show ¬ (false = true) by decide)] at H; exact H
                            clear H
                            have H := H1
                            clear H1
                            have H' := Aside0.mk H
                            clear H
                            have hcz47_0 : w29.cell? ⟨gb232, 0, none⟩ = some (.slice Ao17 t222.length co17) := (blk_cell BK232.out 0).trans rfl
                            have hcz47_1 : w29.cell? ⟨gb232, 1, none⟩ = some (.slice Ao19 t225.length co19) := (blk_cell BK232.out 1).trans rfl
                            have hcz47_2 : w29.cell? ⟨gb232, 2, none⟩ = some (.slice Ao20 t228.length co20) := (blk_cell BK232.out 2).trans rfl
                            have hfz47_0 := blk_frozen BK232.out 0
                            have hfz47_1 := blk_frozen BK232.out 1
                            have hfz47_2 := blk_frozen BK232.out 2
                            go_wp2_with (first | (go_at_call 21; (with_reducible refine (state_Fits.calls k2 _ _ l0 _ _ t222 _ _ t225 _ _ t228 true _ ?side1 ?side2 ?side3 ?side4 ?side5 ?side6 ?side7 ?side8 A31.out).mono ?_); (case side1 => repeat (first | exact (Kd.C_below HR0.out HB.out) | (with_reducible refine Kd.C_alloc ?_ _) | (with_reducible refine Kd.C_drewN ?_ _) | (with_reducible refine Kd.C_drew ?_))); (case side2 => exact HC0.out); (case side3 => repeat (first | exact (Kd.S_reads' HO_233000.out).2.2 | (with_reducible refine Kd.C_alloc ?_ _) | (with_reducible refine Kd.C_drewN ?_ _) | (with_reducible refine Kd.C_drew ?_))); (case side4 => exact (Kd.S_reads' HO_233000.out).2.1); (case side5 => repeat (first | exact (Kd.R_reads' HO_233001.out).2.2 | (with_reducible refine Kd.C_alloc ?_ _) | (with_reducible refine Kd.C_drewN ?_ _) | (with_reducible refine Kd.C_drew ?_))); (case side6 => exact (Kd.R_reads' HO_233001.out).2.1); (case side7 => repeat (first | exact (Kd.R_reads' HO_233002.out).2.2 | (with_reducible refine Kd.C_alloc ?_ _) | (with_reducible refine Kd.C_drewN ?_ _) | (with_reducible refine Kd.C_drew ?_))); (case side8 => exact (Kd.R_reads' HO_233002.out).2.1); rintro e w48 ⟨rfl, hb⟩; have n0_ := Aside0.mk (Kd.R_below (by (with_reducible repeat (first | apply Kd.R_alloc | apply Kd.R_drewN | apply Kd.R_drew)); exact HO_5.out) hb); have n1_ := Aside0.mk (Kd.S_below (by (with_reducible repeat (first | apply Kd.S_alloc | apply Kd.S_drewN | apply Kd.S_drew)); exact HO_233000.out) hb); have n2_ := Aside0.mk (Kd.R_below (by (with_reducible repeat (first | apply Kd.R_alloc | apply Kd.R_drewN | apply Kd.R_drew)); exact HO_233001.out) hb); have n3_ := Aside0.mk (Kd.R_below (by (with_reducible repeat (first | apply Kd.R_alloc | apply Kd.R_drewN | apply Kd.R_drew)); exact HO_233002.out) hb); have n4_ := Aside0.mk (blk_below (g := gb232) (o := .cells #[.slice Ao17 t222.length co17, .slice Ao19 t225.length co19, .slice Ao20 t228.length co20] 25 (0, 0)) (by (with_reducible repeat (first | refine blk_drewN ?_ _ | refine blk_drew ?_ | refine blk_alloc ?_ _)); exact BK232.out) hb); have n5_ := Aside0.mk (below_step (by repeat (first | (with_reducible first | exact HB.out | apply below_alloc | apply pw_below_drewN | apply below_drew1 | refine below_set ?_ GE232.out) | exact HB.out)) hb); clear HO_5; clear HO_233000; clear HO_233001; clear HO_233002; clear BK232; clear HB; have HO_5 := n0_; have HO_233000 := n1_; have HO_233001 := n2_; have HO_233002 := n3_; have BK232 := n4_; have HB := n5_; clear n0_ n1_ n2_ n3_ n4_ n5_; (try clear hb); (try clear hb2); (try clear hk); (try clear hi); have hcz49_0 : w48.cell? ⟨gb232, 0, none⟩ = some (.slice Ao17 t222.length co17) := (blk_cell BK232.out 0).trans rfl; have hcz49_1 : w48.cell? ⟨gb232, 1, none⟩ = some (.slice Ao19 t225.length co19) := (blk_cell BK232.out 1).trans rfl; have hcz49_2 : w48.cell? ⟨gb232, 2, none⟩ = some (.slice Ao20 t228.length co20) := (blk_cell BK232.out 2).trans rfl; have hfz49_0 := blk_frozen BK232.out 0; have hfz49_1 := blk_frozen BK232.out 1; have hfz49_2 := blk_frozen BK232.out 2) | (go_at_call 22; (with_reducible refine (backstepref10_Fits.calls k2 _ _ l0 _ _ t222 _ _ t225 _ _ t228 false _ ?side1 ?side2 ?side3 ?side4 ?side5 ?side6 ?side7 ?side8 A33.out).mono ?_); (case side1 => repeat (first | exact (Kd.C_below HR0.out HB.out) | (with_reducible refine Kd.C_alloc ?_ _) | (with_reducible refine Kd.C_drewN ?_ _) | (with_reducible refine Kd.C_drew ?_))); (case side2 => exact HC0.out); (case side3 => repeat (first | exact (Kd.S_reads' HO_233000.out).2.2 | (with_reducible refine Kd.C_alloc ?_ _) | (with_reducible refine Kd.C_drewN ?_ _) | (with_reducible refine Kd.C_drew ?_))); (case side4 => exact (Kd.S_reads' HO_233000.out).2.1); (case side5 => repeat (first | exact (Kd.R_reads' HO_233001.out).2.2 | (with_reducible refine Kd.C_alloc ?_ _) | (with_reducible refine Kd.C_drewN ?_ _) | (with_reducible refine Kd.C_drew ?_))); (case side6 => exact (Kd.R_reads' HO_233001.out).2.1); (case side7 => repeat (first | exact (Kd.R_reads' HO_233002.out).2.2 | (with_reducible refine Kd.C_alloc ?_ _) | (with_reducible refine Kd.C_drewN ?_ _) | (with_reducible refine Kd.C_drew ?_))); (case side8 => exact (Kd.R_reads' HO_233002.out).2.1); rintro e w50 ⟨rfl, hb⟩; have n0_ := Aside0.mk (Kd.R_below (by (with_reducible repeat (first | apply Kd.R_alloc | apply Kd.R_drewN | apply Kd.R_drew)); exact HO_5.out) hb); have n1_ := Aside0.mk (Kd.S_below (by (with_reducible repeat (first | apply Kd.S_alloc | apply Kd.S_drewN | apply Kd.S_drew)); exact HO_233000.out) hb); have n2_ := Aside0.mk (Kd.R_below (by (with_reducible repeat (first | apply Kd.R_alloc | apply Kd.R_drewN | apply Kd.R_drew)); exact HO_233001.out) hb); have n3_ := Aside0.mk (Kd.R_below (by (with_reducible repeat (first | apply Kd.R_alloc | apply Kd.R_drewN | apply Kd.R_drew)); exact HO_233002.out) hb); have n4_ := Aside0.mk (blk_below (g := gb232) (o := .cells #[.slice Ao17 t222.length co17, .slice Ao19 t225.length co19, .slice Ao20 t228.length co20] 25 (0, 0)) (by (with_reducible repeat (first | refine blk_drewN ?_ _ | refine blk_drew ?_ | refine blk_alloc ?_ _)); exact BK232.out) hb); have n5_ := Aside0.mk (below_step (by repeat (first | (with_reducible first | exact HB.out | apply below_alloc | apply pw_below_drewN | apply below_drew1 | refine below_set ?_ GE232.out) | exact HB.out)) hb); clear HO_5; clear HO_233000; clear HO_233001; clear HO_233002; clear BK232; clear HB; have HO_5 := n0_; have HO_233000 := n1_; have HO_233001 := n2_; have HO_233002 := n3_; have BK232 := n4_; have HB := n5_; clear n0_ n1_ n2_ n3_ n4_ n5_; (try clear hb); (try clear hb2); (try clear hk); (try clear hi)))
                            go_meet
                            case rel => exact ⟨_, (true), (by first | rfl | (simp; done) | (simp [*]; done)), H', ⟨by have := HJ4.out; have := HK2.out; first | omega | exact Nat.le_refl _⟩, ⟨by (try simp only [hl5_2]); (with_reducible repeat (first | apply Kd.S_alloc | apply Kd.S_drewN | apply Kd.S_drew)); exact Kd.S_mono HO_233000.out (fun _ hk => ⟨hk.2.1, hk.2.2⟩)⟩, ⟨by (try simp only [hl5_2]); (with_reducible repeat (first | apply Kd.R_alloc | apply Kd.R_drewN | apply Kd.R_drew)); exact Kd.R_mono HO_233001.out (fun _ hk => hk.2)⟩, ⟨by (try simp only [hl5_2]); (with_reducible repeat (first | apply Kd.R_alloc | apply Kd.R_drewN | apply Kd.R_drew)); exact Kd.R_mono HO_233002.out (fun _ hk => hk.2)⟩, ⟨by (try simp only [hl5_2]); (with_reducible repeat (first | refine blk_drewN ?_ _ | refine blk_drew ?_ | refine blk_alloc ?_ _)); exact BK232.out⟩, ⟨by repeat (first | (with_reducible first | exact HB.out | apply below_alloc | apply pw_below_drewN | apply below_drew1 | refine below_set ?_ GE232.out) | exact HB.out)⟩⟩
                        · replace c32 := Bool.eq_false_iff.mpr c32
                          subst c32
                          have H1 : (backsteplaw10_StateStarts.j2 k2 l0 true t222 t225 t228) = some r := by rw [if_neg (show ¬ (false = true) by decide)] at H; exact H
                          clear H
                          have H := H1
                          clear H1
                          have H' := Aside0.mk H
                          clear H
                          have hcz51_0 : w29.cell? ⟨gb232, 0, none⟩ = some (.slice Ao17 t222.length co17) := (blk_cell BK232.out 0).trans rfl
                          have hcz51_1 : w29.cell? ⟨gb232, 1, none⟩ = some (.slice Ao19 t225.length co19) := (blk_cell BK232.out 1).trans rfl
                          have hcz51_2 : w29.cell? ⟨gb232, 2, none⟩ = some (.slice Ao20 t228.length co20) := (blk_cell BK232.out 2).trans rfl
                          have hfz51_0 := blk_frozen BK232.out 0
                          have hfz51_1 := blk_frozen BK232.out 1
                          have hfz51_2 := blk_frozen BK232.out 2
                          go_wp2_with (first | (go_at_call 21; (with_reducible refine (state_Fits.calls k2 _ _ l0 _ _ t222 _ _ t225 _ _ t228 false _ ?side1 ?side2 ?side3 ?side4 ?side5 ?side6 ?side7 ?side8 A31.out).mono ?_); (case side1 => repeat (first | exact (Kd.C_below HR0.out HB.out) | (with_reducible refine Kd.C_alloc ?_ _) | (with_reducible refine Kd.C_drewN ?_ _) | (with_reducible refine Kd.C_drew ?_))); (case side2 => exact HC0.out); (case side3 => repeat (first | exact (Kd.S_reads' HO_233000.out).2.2 | (with_reducible refine Kd.C_alloc ?_ _) | (with_reducible refine Kd.C_drewN ?_ _) | (with_reducible refine Kd.C_drew ?_))); (case side4 => exact (Kd.S_reads' HO_233000.out).2.1); (case side5 => repeat (first | exact (Kd.R_reads' HO_233001.out).2.2 | (with_reducible refine Kd.C_alloc ?_ _) | (with_reducible refine Kd.C_drewN ?_ _) | (with_reducible refine Kd.C_drew ?_))); (case side6 => exact (Kd.R_reads' HO_233001.out).2.1); (case side7 => repeat (first | exact (Kd.R_reads' HO_233002.out).2.2 | (with_reducible refine Kd.C_alloc ?_ _) | (with_reducible refine Kd.C_drewN ?_ _) | (with_reducible refine Kd.C_drew ?_))); (case side8 => exact (Kd.R_reads' HO_233002.out).2.1); rintro e w52 ⟨rfl, hb⟩; have n0_ := Aside0.mk (Kd.R_below (by (with_reducible repeat (first | apply Kd.R_alloc | apply Kd.R_drewN | apply Kd.R_drew)); exact HO_5.out) hb); have n1_ := Aside0.mk (Kd.S_below (by (with_reducible repeat (first | apply Kd.S_alloc | apply Kd.S_drewN | apply Kd.S_drew)); exact HO_233000.out) hb); have n2_ := Aside0.mk (Kd.R_below (by (with_reducible repeat (first | apply Kd.R_alloc | apply Kd.R_drewN | apply Kd.R_drew)); exact HO_233001.out) hb); have n3_ := Aside0.mk (Kd.R_below (by (with_reducible repeat (first | apply Kd.R_alloc | apply Kd.R_drewN | apply Kd.R_drew)); exact HO_233002.out) hb); have n4_ := Aside0.mk (blk_below (g := gb232) (o := .cells #[.slice Ao17 t222.length co17, .slice Ao19 t225.length co19, .slice Ao20 t228.length co20] 25 (0, 0)) (by (with_reducible repeat (first | refine blk_drewN ?_ _ | refine blk_drew ?_ | refine blk_alloc ?_ _)); exact BK232.out) hb); have n5_ := Aside0.mk (below_step (by repeat (first | (with_reducible first | exact HB.out | apply below_alloc | apply pw_below_drewN | apply below_drew1 | refine below_set ?_ GE232.out) | exact HB.out)) hb); clear HO_5; clear HO_233000; clear HO_233001; clear HO_233002; clear BK232; clear HB; have HO_5 := n0_; have HO_233000 := n1_; have HO_233001 := n2_; have HO_233002 := n3_; have BK232 := n4_; have HB := n5_; clear n0_ n1_ n2_ n3_ n4_ n5_; (try clear hb); (try clear hb2); (try clear hk); (try clear hi)))
                          go_meet
                          case rel => exact ⟨_, (true), (by first | rfl | (simp; done) | (simp [*]; done)), H', ⟨by have := HJ4.out; have := HK2.out; first | omega | exact Nat.le_refl _⟩, ⟨by (try simp only [hl5_2]); (with_reducible repeat (first | apply Kd.S_alloc | apply Kd.S_drewN | apply Kd.S_drew)); exact Kd.S_mono HO_233000.out (fun _ hk => ⟨hk.2.1, hk.2.2⟩)⟩, ⟨by (try simp only [hl5_2]); (with_reducible repeat (first | apply Kd.R_alloc | apply Kd.R_drewN | apply Kd.R_drew)); exact Kd.R_mono HO_233001.out (fun _ hk => hk.2)⟩, ⟨by (try simp only [hl5_2]); (with_reducible repeat (first | apply Kd.R_alloc | apply Kd.R_drewN | apply Kd.R_drew)); exact Kd.R_mono HO_233002.out (fun _ hk => hk.2)⟩, ⟨by (try simp only [hl5_2]); (with_reducible repeat (first | refine blk_drewN ?_ _ | refine blk_drew ?_ | refine blk_alloc ?_ _)); exact BK232.out⟩, ⟨by repeat (first | (with_reducible first | exact HB.out | apply below_alloc | apply pw_below_drewN | apply below_drew1 | refine below_set ?_ GE232.out) | exact HB.out)⟩⟩
                      · rw [if_neg c30] at H
                        have c30b0 : (t231 == 0) = false := beq_eq_false_iff_ne.mpr c30
                        have c30b1 : (t231 != 0) = true := bne_iff_ne.mpr c30
                        (first | rw [c30b0] | (simp only [i64_w, i32_w]; rw [c30b0]) | skip)
                        have H' := Aside0.mk H
                        clear H
                        go_wp2
                        go_meet
                        case rel => exact ⟨_, (true), (by first | rfl | (simp; done) | (simp [*]; done)), H', ⟨by have := HJ4.out; have := HK2.out; first | omega | exact Nat.le_refl _⟩, ⟨by (try simp only [hl5_2]); (with_reducible repeat (first | apply Kd.S_alloc | apply Kd.S_drewN | apply Kd.S_drew)); exact Kd.S_mono HO_233000.out (fun _ hk => ⟨hk.2.1, hk.2.2⟩)⟩, ⟨by (try simp only [hl5_2]); (with_reducible repeat (first | apply Kd.R_alloc | apply Kd.R_drewN | apply Kd.R_drew)); exact Kd.R_mono HO_233001.out (fun _ hk => hk.2)⟩, ⟨by (try simp only [hl5_2]); (with_reducible repeat (first | apply Kd.R_alloc | apply Kd.R_drewN | apply Kd.R_drew)); exact Kd.R_mono HO_233002.out (fun _ hk => hk.2)⟩, ⟨by (try simp only [hl5_2]); (with_reducible repeat (first | refine blk_drewN ?_ _ | refine blk_drew ?_ | refine blk_alloc ?_ _)); exact BK232.out⟩, ⟨by repeat (first | (with_reducible first | exact HB.out | apply below_alloc | apply pw_below_drewN | apply below_drew1 | refine below_set ?_ GE232.out) | exact HB.out)⟩⟩
                    case rest =>
                      clear HC28
                      try clear c1
                      try clear c2
                      try clear p2
                      try clear q2
                      try clear hx2
                      try clear hf2
                      try clear c3
                      try clear c4
                      try clear p6
                      try clear c7
                      try clear c7b0
                      try clear c7b1
                      try clear c8
                      try clear c9
                      try clear c13
                      try clear c18
                      try clear c19
                      try clear c21
                      try clear c21b0
                      try clear c22
                      try clear c22b0
                      try clear p23
                      try clear q23
                      try clear hx23
                      try clear hf23
                      try clear c27
                      try clear c30
                      try clear c30b0
                      try clear c30b1
                      try clear c32
                      try clear c34
                      try clear c36
                      try clear hcz18_0
                      try clear hcz18_1
                      try clear hcz18_2
                      try clear hcz37_0
                      try clear hcz37_1
                      try clear hcz37_2
                      try clear hcz39_0
                      try clear hcz39_1
                      try clear hcz39_2
                      try clear hcz41_0
                      try clear hcz41_1
                      try clear hcz41_2
                      try clear hcz42_0
                      try clear hcz42_1
                      try clear hcz42_2
                      try clear hcz44_0
                      try clear hcz44_1
                      try clear hcz44_2
                      try clear hcz46_0
                      try clear hcz46_1
                      try clear hcz46_2
                      try clear hcz47_0
                      try clear hcz47_1
                      try clear hcz47_2
                      try clear hcz49_0
                      try clear hcz49_1
                      try clear hcz49_2
                      try clear hcz51_0
                      try clear hcz51_1
                      try clear hcz51_2
                      try clear hfz18_0
                      try clear hfz18_1
                      try clear hfz18_2
                      try clear hfz37_0
                      try clear hfz37_1
                      try clear hfz37_2
                      try clear hfz39_0
                      try clear hfz39_1
                      try clear hfz39_2
                      try clear hfz41_0
                      try clear hfz41_1
                      try clear hfz41_2
                      try clear hfz42_0
                      try clear hfz42_1
                      try clear hfz42_2
                      try clear hfz44_0
                      try clear hfz44_1
                      try clear hfz44_2
                      try clear hfz46_0
                      try clear hfz46_1
                      try clear hfz46_2
                      try clear hfz47_0
                      try clear hfz47_1
                      try clear hfz47_2
                      try clear hfz49_0
                      try clear hfz49_1
                      try clear hfz49_2
                      try clear hfz51_0
                      try clear hfz51_1
                      try clear hfz51_2
                      try clear hx233_0
                      try clear hx23_0
                      try clear p2
                      try clear p23
                      try clear p233
                      try clear q23
                      try clear q233
                      obtain ⟨kq, x78_27, rfl, HA, HJ27, HO_233000, HO_233001, HO_233002, BK232, HB⟩ := hcut
                      cases kq with
                      | zero => exact absurd HA.out (by simp [backsteplaw10_StateStarts.j2])
                      | succ kj27 =>
                        have H := HA.out
                        clear HA
                        simp only [backsteplaw10_StateStarts.j2] at H
                        by_cases c53 : x78_27 = true
                        · subst c53
                          have H1 : (some false) = some r := by rw [if_pos rfl] at H; exact H
                          clear H
                          have H := H1
                          clear H1
                          obtain rfl := Option.some.inj H
                          go_wp2
                          go_ret
                          exact ⟨by first | rfl | (simp [errW_none, errW_some] <;> rfl) | (simp [*, errW_none, errW_some] <;> rfl), by repeat (first | (with_reducible first | exact HB.out | apply below_alloc | apply pw_below_drewN | apply below_drew1 | refine below_set ?_ GE232.out) | exact HB.out)⟩
                        · replace c53 := Bool.eq_false_iff.mpr c53
                          subst c53
                          have H1 : (backsteplaw10_StateStarts.l1 kj27 l0 0 t222 t225 t228) = some r := by rw [if_neg (show ¬ (false = true) by decide)] at H; exact H
                          clear H
                          have H := H1
                          clear H1
                          have H' := Aside0.mk H
                          clear H
                          go_wp2
                          go_loopg [9] kj27 (fun kq v9 w' => ∃ (x9_4 : Int), v9 = .int .i64 x9_4 ∧ Aside0 (backsteplaw10_StateStarts.l1 kq l0 x9_4 t222 t225 t228 = some r) ∧ Aside0 (kq ≤ kj27) ∧ Aside0 (Kd.S (Kd.slice 3 (Kd.int .i64)) 23 w' w.heap.size (fun k_ => some k_ ≠ ((.slice Ao19 t225.length co19) : Value).ownBlock ∧ some k_ ≠ ((.slice Ao20 t228.length co20) : Value).ownBlock) (.slice Ao17 t222.length co17) t222) ∧ Aside0 (Kd.R (Kd.int .i64) 3 w' w.heap.size (fun k_ => some k_ ≠ ((.slice Ao20 t228.length co20) : Value).ownBlock) (.slice Ao19 t225.length co19) t225) ∧ Aside0 (Kd.R (Kd.int .i64) 3 w' w.heap.size (fun k_ => some k_ ≠ ((.slice Ao19 t225.length co19) : Value).ownBlock) (.slice Ao20 t228.length co20) t228) ∧ Aside0 (w'.heap[gb232]? = some (.cells #[(.slice Ao17 t222.length co17), (.slice Ao19 t225.length co19), (.slice Ao20 t228.length co20)] 25 (0, 0))) ∧ Aside0 (Below w.heap.size w w'))
                          case atStart => exact ⟨(0), (by first | rfl | (simp; done) | (simp [*]; done)), H', ⟨Nat.le_refl _⟩, ⟨by (try simp only [hl5_2]); (with_reducible repeat (first | apply Kd.S_alloc | apply Kd.S_drewN | apply Kd.S_drew)); exact HO_233000.out⟩, ⟨by (try simp only [hl5_2]); (with_reducible repeat (first | apply Kd.R_alloc | apply Kd.R_drewN | apply Kd.R_drew)); exact HO_233001.out⟩, ⟨by (try simp only [hl5_2]); (with_reducible repeat (first | apply Kd.R_alloc | apply Kd.R_drewN | apply Kd.R_drew)); exact HO_233002.out⟩, ⟨by (try simp only [hl5_2]); (with_reducible repeat (first | refine blk_drewN ?_ _ | refine blk_drew ?_ | refine blk_alloc ?_ _)); exact BK232.out⟩, ⟨by repeat (first | (with_reducible first | exact HB.out | apply below_alloc | apply pw_below_drewN | apply below_drew1 | refine below_set ?_ GE232.out) | exact HB.out)⟩⟩
                          case round =>
                            clear H'
                            try clear c1
                            try clear c2
                            try clear p2
                            try clear q2
                            try clear hx2
                            try clear hf2
                            try clear c3
                            try clear c4
                            try clear c5
                            try clear p6
                            try clear c7
                            try clear c7b0
                            try clear c7b1
                            try clear c8
                            try clear c9
                            try clear c13
                            try clear c18
                            try clear c19
                            try clear c21
                            try clear c21b0
                            try clear c22
                            try clear c22b0
                            try clear p23
                            try clear q23
                            try clear hx23
                            try clear hf23
                            try clear c27
                            try clear c30
                            try clear c30b0
                            try clear c30b1
                            try clear c32
                            try clear c34
                            try clear c36
                            try clear c53
                            try clear hcz18_0
                            try clear hcz18_1
                            try clear hcz18_2
                            try clear hcz37_0
                            try clear hcz37_1
                            try clear hcz37_2
                            try clear hcz39_0
                            try clear hcz39_1
                            try clear hcz39_2
                            try clear hcz41_0
                            try clear hcz41_1
                            try clear hcz41_2
                            try clear hcz42_0
                            try clear hcz42_1
                            try clear hcz42_2
                            try clear hcz44_0
                            try clear hcz44_1
                            try clear hcz44_2
                            try clear hcz46_0
                            try clear hcz46_1
                            try clear hcz46_2
                            try clear hcz47_0
                            try clear hcz47_1
                            try clear hcz47_2
                            try clear hcz49_0
                            try clear hcz49_1
                            try clear hcz49_2
                            try clear hcz51_0
                            try clear hcz51_1
                            try clear hcz51_2
                            try clear hfz18_0
                            try clear hfz18_1
                            try clear hfz18_2
                            try clear hfz37_0
                            try clear hfz37_1
                            try clear hfz37_2
                            try clear hfz39_0
                            try clear hfz39_1
                            try clear hfz39_2
                            try clear hfz41_0
                            try clear hfz41_1
                            try clear hfz41_2
                            try clear hfz42_0
                            try clear hfz42_1
                            try clear hfz42_2
                            try clear hfz44_0
                            try clear hfz44_1
                            try clear hfz44_2
                            try clear hfz46_0
                            try clear hfz46_1
                            try clear hfz46_2
                            try clear hfz47_0
                            try clear hfz47_1
                            try clear hfz47_2
                            try clear hfz49_0
                            try clear hfz49_1
                            try clear hfz49_2
                            try clear hfz51_0
                            try clear hfz51_1
                            try clear hfz51_2
                            try clear hx233_0
                            try clear hx23_0
                            try clear p2
                            try clear p23
                            try clear p233
                            try clear p6
                            try clear q2
                            try clear q23
                            try clear q233
                            obtain ⟨x9_4, rfl, HA, HK4, HO_233000, HO_233001, HO_233002, BK232, HB⟩ := hrel
                            cases gk with
                            | zero => exact absurd HA.out (by simp [backsteplaw10_StateStarts.l1])
                            | succ k4 =>
                              have H := HA.out
                              clear HA
                              simp only [backsteplaw10_StateStarts.l1] at H
                              by_cases c54 : x9_4 < (l0.length : Int)
                              · rw [if_pos c54] at H
                                have c54b0 : decide (x9_4 < (l0.length : Int)) = true := decide_eq_true c54
                                clear c54
                                have HC55 := Aside0.mk H
                                clear H
                                go_upto_region 18 with (fail)
                                go_cut [99] (fun v99 wc => ∃ (kq : Nat) (x99_54 : Bool), v99 = .bool x99_54 ∧ Aside0 (backsteplaw10_StateStarts.j4 kq l0 x9_4 x99_54 t222 t225 t228 = some r) ∧ Aside0 (kq ≤ k4) ∧ Aside0 (Kd.S (Kd.slice 3 (Kd.int .i64)) 23 wc w.heap.size (fun k_ => some k_ ≠ ((.slice Ao19 t225.length co19) : Value).ownBlock ∧ some k_ ≠ ((.slice Ao20 t228.length co20) : Value).ownBlock) (.slice Ao17 t222.length co17) t222) ∧ Aside0 (Kd.R (Kd.int .i64) 3 wc w.heap.size (fun k_ => some k_ ≠ ((.slice Ao20 t228.length co20) : Value).ownBlock) (.slice Ao19 t225.length co19) t225) ∧ Aside0 (Kd.R (Kd.int .i64) 3 wc w.heap.size (fun k_ => some k_ ≠ ((.slice Ao19 t225.length co19) : Value).ownBlock) (.slice Ao20 t228.length co20) t228) ∧ Aside0 (wc.heap[gb232]? = some (.cells #[(.slice Ao17 t222.length co17), (.slice Ao19 t225.length co19), (.slice Ao20 t228.length co20)] 25 (0, 0))) ∧ Aside0 (Below w.heap.size w wc))
                                case first =>
                                  have H := HC55.out
                                  clear HC55
                                  by_cases c56 : 0 ≤ x9_4
                                  · rw [if_pos c56] at H
                                    have c56b0 : decide (0 ≤ x9_4) = true := decide_eq_true c56
                                    clear c56
                                    (first | rw [c56b0] | (simp only [i64_w, i32_w]; rw [c56b0]) | skip)
                                    by_cases c57 : ((rd_T44 l0 x9_4).f1) = 3
                                    · rw [if_pos c57] at H
                                      have c57b0 : (((rd_T44 l0 x9_4).f1) == 3) = true := beq_iff_eq.mpr c57
                                      have c57b1 : (((rd_T44 l0 x9_4).f1) != 3) = false := bne_eq_false_iff_eq.mpr c57
                                      clear c57
                                      by_cases c58 : x9_4 < (t222.length : Int)
                                      · rw [if_pos c58] at H
                                        have c58b0 : decide (x9_4 < (t222.length : Int)) = true := decide_eq_true c58
                                        clear c58
                                        have H' := Aside0.mk H
                                        clear H
                                        have p240 : 0 ≤ (x9_4 : Int) := of_decide_eq_true (by first | (with_reducible assumption) | assumption)
                                        have q240 : x9_4 < (l0.length : Int) := of_decide_eq_true (by first | (with_reducible assumption) | assumption)
                                        obtain ⟨ad240, e240, hx240_0, hx240_1, hx240_2⟩ := at_T44 HR0.out x9_4 p240 q240
                                        cases e240
                                        replace hx240_0 := (HB.out.cell (World.block_lt_of_cell? w _ hx240_0)).trans hx240_0
                                        replace hx240_1 := (HB.out.cell (World.block_lt_of_cell? w _ hx240_1)).trans hx240_1
                                        replace hx240_2 := (HB.out.cell (World.block_lt_of_cell? w _ hx240_2)).trans hx240_2
                                        replace p240 := eq_true p240
                                        replace q240 := eq_true q240
                                        have hcz59_0 : wr.cell? ⟨gb232, 0, none⟩ = some (.slice Ao17 t222.length co17) := (blk_cell BK232.out 0).trans rfl
                                        have hcz59_1 : wr.cell? ⟨gb232, 1, none⟩ = some (.slice Ao19 t225.length co19) := (blk_cell BK232.out 1).trans rfl
                                        have hcz59_2 : wr.cell? ⟨gb232, 2, none⟩ = some (.slice Ao20 t228.length co20) := (blk_cell BK232.out 2).trans rfl
                                        have hfz59_0 := blk_frozen BK232.out 0
                                        have hfz59_1 := blk_frozen BK232.out 1
                                        have hfz59_2 := blk_frozen BK232.out 2
                                        have p241 : 0 ≤ (x9_4 : Int) := of_decide_eq_true (by first | (with_reducible assumption) | assumption)
                                        have q241 : x9_4 < (t222.length : Int) := of_decide_eq_true (by first | (with_reducible assumption) | assumption)
                                        obtain ⟨ad241, A241_0, c241_0, e241, hx241_0, hl241_0, hi241_0⟩ := at_L1 (Kd.S_reads' HO_233000.out).2.2 x9_4 p241 q241
                                        cases e241
                                        obtain ⟨ce241, hce241, hMe241, hcc241⟩ := Kd.S_get HO_233000.out [] x9_4 p241 (by first | exact q241 | exact of_decide_eq_true (by first | (with_reducible assumption) | assumption) | (have e_ := (Kd.S_reads' HO_233000.out).1; omega))
                                        obtain ⟨ve241_0, rfl, ge241_0⟩ := hMe241
                                        have hv241_0 := hcc241 0 _ rfl
                                        rw [Nat.add_zero, show ((Kd.slice 3 (Kd.int .i64))).sz = 1 from rfl, Nat.mul_one] at hv241_0
                                        replace hv241_0 := Option.some.inj (hv241_0.symm.trans hx241_0)
                                        rw [hv241_0] at ge241_0
                                        have HL241_0 := Aside0.mk (show Kd.R (Kd.int .i64) 3 _ _ _ _ (rd_L1 t222 x9_4) from ge241_0)
                                        clear hv241_0 ge241_0
                                        clear hcc241 hce241
                                        have HR241_0 := Aside0.mk hi241_0
                                        have HC241_0 := Aside0.mk hl241_0
                                        clear hi241_0 hl241_0
                                        replace p241 := eq_true p241
                                        replace q241 := eq_true q241
                                        go_wp2
                                        go_meet
                                        case rel => exact ⟨_, ((((rd_L1 t222 x9_4).length : Int) != 0)), (by first | rfl | (simp; done) | (simp [*]; done)), H', ⟨by have := HJ4.out; have := HK2.out; have := HJ27.out; have := HK4.out; first | omega | exact Nat.le_refl _⟩, ⟨by (try simp only [hl5_2]); (with_reducible repeat (first | apply Kd.S_alloc | apply Kd.S_drewN | apply Kd.S_drew)); exact HO_233000.out⟩, ⟨by (try simp only [hl5_2]); (with_reducible repeat (first | apply Kd.R_alloc | apply Kd.R_drewN | apply Kd.R_drew)); exact HO_233001.out⟩, ⟨by (try simp only [hl5_2]); (with_reducible repeat (first | apply Kd.R_alloc | apply Kd.R_drewN | apply Kd.R_drew)); exact HO_233002.out⟩, ⟨by (try simp only [hl5_2]); (with_reducible repeat (first | refine blk_drewN ?_ _ | refine blk_drew ?_ | refine blk_alloc ?_ _)); exact BK232.out⟩, ⟨by repeat (first | (with_reducible first | exact HB.out | apply below_alloc | apply pw_below_drewN | apply below_drew1 | refine below_set ?_ GE232.out) | exact HB.out)⟩⟩
                                      · rw [if_neg c58] at H
                                        exact absurd H (by simp)
                                    · rw [if_neg c57] at H
                                      have c57b0 : (((rd_T44 l0 x9_4).f1) == 3) = false := beq_eq_false_iff_ne.mpr c57
                                      have c57b1 : (((rd_T44 l0 x9_4).f1) != 3) = true := bne_iff_ne.mpr c57
                                      have H' := Aside0.mk H
                                      clear H
                                      have p240 : 0 ≤ (x9_4 : Int) := of_decide_eq_true (by first | (with_reducible assumption) | assumption)
                                      have q240 : x9_4 < (l0.length : Int) := of_decide_eq_true (by first | (with_reducible assumption) | assumption)
                                      obtain ⟨ad240, e240, hx240_0, hx240_1, hx240_2⟩ := at_T44 HR0.out x9_4 p240 q240
                                      cases e240
                                      replace hx240_0 := (HB.out.cell (World.block_lt_of_cell? w _ hx240_0)).trans hx240_0
                                      replace hx240_1 := (HB.out.cell (World.block_lt_of_cell? w _ hx240_1)).trans hx240_1
                                      replace hx240_2 := (HB.out.cell (World.block_lt_of_cell? w _ hx240_2)).trans hx240_2
                                      replace p240 := eq_true p240
                                      replace q240 := eq_true q240
                                      go_wp2
                                      go_meet
                                      case rel => exact ⟨_, (false), (by first | rfl | (simp; done) | (simp [*]; done)), H', ⟨by have := HJ4.out; have := HK2.out; have := HJ27.out; have := HK4.out; first | omega | exact Nat.le_refl _⟩, ⟨by (try simp only [hl5_2]); (with_reducible repeat (first | apply Kd.S_alloc | apply Kd.S_drewN | apply Kd.S_drew)); exact HO_233000.out⟩, ⟨by (try simp only [hl5_2]); (with_reducible repeat (first | apply Kd.R_alloc | apply Kd.R_drewN | apply Kd.R_drew)); exact HO_233001.out⟩, ⟨by (try simp only [hl5_2]); (with_reducible repeat (first | apply Kd.R_alloc | apply Kd.R_drewN | apply Kd.R_drew)); exact HO_233002.out⟩, ⟨by (try simp only [hl5_2]); (with_reducible repeat (first | refine blk_drewN ?_ _ | refine blk_drew ?_ | refine blk_alloc ?_ _)); exact BK232.out⟩, ⟨by repeat (first | (with_reducible first | exact HB.out | apply below_alloc | apply pw_below_drewN | apply below_drew1 | refine below_set ?_ GE232.out) | exact HB.out)⟩⟩
                                  · rw [if_neg c56] at H
                                    exact absurd H (by simp)
                                case rest =>
                                  clear HC55
                                  try clear c1
                                  try clear c2
                                  try clear p2
                                  try clear q2
                                  try clear hx2
                                  try clear hf2
                                  try clear c3
                                  try clear c4
                                  try clear c5
                                  try clear p6
                                  try clear c7
                                  try clear c7b0
                                  try clear c7b1
                                  try clear c8
                                  try clear c9
                                  try clear c13
                                  try clear c18
                                  try clear c19
                                  try clear c21
                                  try clear c21b0
                                  try clear c22
                                  try clear c22b0
                                  try clear p23
                                  try clear q23
                                  try clear hx23
                                  try clear hf23
                                  try clear c24
                                  try clear p24
                                  try clear q24
                                  try clear hx24
                                  try clear c27
                                  try clear c30
                                  try clear c30b0
                                  try clear c30b1
                                  try clear c32
                                  try clear c34
                                  try clear c36
                                  try clear c53
                                  try clear c54
                                  try clear c54b0
                                  try clear c56
                                  try clear c56b0
                                  try clear c57
                                  try clear c57b0
                                  try clear c57b1
                                  try clear c58
                                  try clear c58b0
                                  try clear hcz18_0
                                  try clear hcz18_1
                                  try clear hcz18_2
                                  try clear hcz37_0
                                  try clear hcz37_1
                                  try clear hcz37_2
                                  try clear hcz39_0
                                  try clear hcz39_1
                                  try clear hcz39_2
                                  try clear hcz41_0
                                  try clear hcz41_1
                                  try clear hcz41_2
                                  try clear hcz42_0
                                  try clear hcz42_1
                                  try clear hcz42_2
                                  try clear hcz44_0
                                  try clear hcz44_1
                                  try clear hcz44_2
                                  try clear hcz46_0
                                  try clear hcz46_1
                                  try clear hcz46_2
                                  try clear hcz47_0
                                  try clear hcz47_1
                                  try clear hcz47_2
                                  try clear hcz49_0
                                  try clear hcz49_1
                                  try clear hcz49_2
                                  try clear hcz51_0
                                  try clear hcz51_1
                                  try clear hcz51_2
                                  try clear hcz59_0
                                  try clear hcz59_1
                                  try clear hcz59_2
                                  try clear hfz18_0
                                  try clear hfz18_1
                                  try clear hfz18_2
                                  try clear hfz37_0
                                  try clear hfz37_1
                                  try clear hfz37_2
                                  try clear hfz39_0
                                  try clear hfz39_1
                                  try clear hfz39_2
                                  try clear hfz41_0
                                  try clear hfz41_1
                                  try clear hfz41_2
                                  try clear hfz42_0
                                  try clear hfz42_1
                                  try clear hfz42_2
                                  try clear hfz44_0
                                  try clear hfz44_1
                                  try clear hfz44_2
                                  try clear hfz46_0
                                  try clear hfz46_1
                                  try clear hfz46_2
                                  try clear hfz47_0
                                  try clear hfz47_1
                                  try clear hfz47_2
                                  try clear hfz49_0
                                  try clear hfz49_1
                                  try clear hfz49_2
                                  try clear hfz51_0
                                  try clear hfz51_1
                                  try clear hfz51_2
                                  try clear hfz59_0
                                  try clear hfz59_1
                                  try clear hfz59_2
                                  try clear hx233_0
                                  try clear hx23_0
                                  try clear hx240_0
                                  try clear hx240_1
                                  try clear hx240_2
                                  try clear hx241_0
                                  try clear p2
                                  try clear p23
                                  try clear p233
                                  try clear p240
                                  try clear p241
                                  try clear p6
                                  try clear q2
                                  try clear q23
                                  try clear q233
                                  try clear q240
                                  try clear q241
                                  obtain ⟨kq, x99_54, rfl, HA, HJ54, HO_233000, HO_233001, HO_233002, BK232, HB⟩ := hcut
                                  cases kq with
                                  | zero => exact absurd HA.out (by simp [backsteplaw10_StateStarts.j4])
                                  | succ kj54 =>
                                    have H := HA.out
                                    clear HA
                                    simp only [backsteplaw10_StateStarts.j4] at H
                                    by_cases c60 : x99_54 = true
                                    · subst c60
                                      have H1 : (some false) = some r := by rw [if_pos rfl] at H; exact H
                                      clear H
                                      have H := H1
                                      clear H1
                                      obtain rfl := Option.some.inj H
                                      go_wp2
                                      go_ret
                                      exact ⟨by first | rfl | (simp [errW_none, errW_some] <;> rfl) | (simp [*, errW_none, errW_some] <;> rfl), by repeat (first | (with_reducible first | exact HB.out | apply below_alloc | apply pw_below_drewN | apply below_drew1 | refine below_set ?_ GE232.out) | exact HB.out)⟩
                                    · replace c60 := Bool.eq_false_iff.mpr c60
                                      subst c60
                                      have H1 : (backsteplaw10_StateStarts.l2 kj54 l0 x9_4 0 t222 t225 t228) = some r := by rw [if_neg (show ¬ (false = true) by decide)] at H; exact H
                                      clear H
                                      have H := H1
                                      clear H1
                                      have H' := Aside0.mk H
                                      clear H
                                      go_wp2
                                      go_loopg [10] kj54 (fun kq v10 w' => ∃ (x10_6 : Int), v10 = .int .i64 x10_6 ∧ Aside0 (backsteplaw10_StateStarts.l2 kq l0 x9_4 x10_6 t222 t225 t228 = some r) ∧ Aside0 (kq ≤ kj54) ∧ Aside0 (Kd.S (Kd.slice 3 (Kd.int .i64)) 23 w' w.heap.size (fun k_ => some k_ ≠ ((.slice Ao19 t225.length co19) : Value).ownBlock ∧ some k_ ≠ ((.slice Ao20 t228.length co20) : Value).ownBlock) (.slice Ao17 t222.length co17) t222) ∧ Aside0 (Kd.R (Kd.int .i64) 3 w' w.heap.size (fun k_ => some k_ ≠ ((.slice Ao20 t228.length co20) : Value).ownBlock) (.slice Ao19 t225.length co19) t225) ∧ Aside0 (Kd.R (Kd.int .i64) 3 w' w.heap.size (fun k_ => some k_ ≠ ((.slice Ao19 t225.length co19) : Value).ownBlock) (.slice Ao20 t228.length co20) t228) ∧ Aside0 (w'.heap[gb232]? = some (.cells #[(.slice Ao17 t222.length co17), (.slice Ao19 t225.length co19), (.slice Ao20 t228.length co20)] 25 (0, 0))) ∧ Aside0 (Below w.heap.size w w'))
                                      case atStart => exact ⟨(0), (by first | rfl | (simp; done) | (simp [*]; done)), H', ⟨Nat.le_refl _⟩, ⟨by (try simp only [hl5_2]); (with_reducible repeat (first | apply Kd.S_alloc | apply Kd.S_drewN | apply Kd.S_drew)); exact HO_233000.out⟩, ⟨by (try simp only [hl5_2]); (with_reducible repeat (first | apply Kd.R_alloc | apply Kd.R_drewN | apply Kd.R_drew)); exact HO_233001.out⟩, ⟨by (try simp only [hl5_2]); (with_reducible repeat (first | apply Kd.R_alloc | apply Kd.R_drewN | apply Kd.R_drew)); exact HO_233002.out⟩, ⟨by (try simp only [hl5_2]); (with_reducible repeat (first | refine blk_drewN ?_ _ | refine blk_drew ?_ | refine blk_alloc ?_ _)); exact BK232.out⟩, ⟨by repeat (first | (with_reducible first | exact HB.out | apply below_alloc | apply pw_below_drewN | apply below_drew1 | refine below_set ?_ GE232.out) | exact HB.out)⟩⟩
                                      case round =>
                                        clear H'
                                        try clear c1
                                        try clear c2
                                        try clear p2
                                        try clear q2
                                        try clear hx2
                                        try clear hf2
                                        try clear c3
                                        try clear c4
                                        try clear c5
                                        try clear c6
                                        try clear p6
                                        try clear c7
                                        try clear c7b0
                                        try clear c7b1
                                        try clear c8
                                        try clear c9
                                        try clear c13
                                        try clear c18
                                        try clear c19
                                        try clear c21
                                        try clear c21b0
                                        try clear c22
                                        try clear c22b0
                                        try clear p23
                                        try clear q23
                                        try clear hx23
                                        try clear hf23
                                        try clear c24
                                        try clear p24
                                        try clear q24
                                        try clear hx24
                                        try clear c27
                                        try clear c30
                                        try clear c30b0
                                        try clear c30b1
                                        try clear c32
                                        try clear c34
                                        try clear c36
                                        try clear c53
                                        try clear c54
                                        try clear c54b0
                                        try clear c56
                                        try clear c56b0
                                        try clear c57
                                        try clear c57b0
                                        try clear c57b1
                                        try clear c58
                                        try clear c58b0
                                        try clear c60
                                        try clear hcz18_0
                                        try clear hcz18_1
                                        try clear hcz18_2
                                        try clear hcz37_0
                                        try clear hcz37_1
                                        try clear hcz37_2
                                        try clear hcz39_0
                                        try clear hcz39_1
                                        try clear hcz39_2
                                        try clear hcz41_0
                                        try clear hcz41_1
                                        try clear hcz41_2
                                        try clear hcz42_0
                                        try clear hcz42_1
                                        try clear hcz42_2
                                        try clear hcz44_0
                                        try clear hcz44_1
                                        try clear hcz44_2
                                        try clear hcz46_0
                                        try clear hcz46_1
                                        try clear hcz46_2
                                        try clear hcz47_0
                                        try clear hcz47_1
                                        try clear hcz47_2
                                        try clear hcz49_0
                                        try clear hcz49_1
                                        try clear hcz49_2
                                        try clear hcz51_0
                                        try clear hcz51_1
                                        try clear hcz51_2
                                        try clear hcz59_0
                                        try clear hcz59_1
                                        try clear hcz59_2
                                        try clear hfz18_0
                                        try clear hfz18_1
                                        try clear hfz18_2
                                        try clear hfz37_0
                                        try clear hfz37_1
                                        try clear hfz37_2
                                        try clear hfz39_0
                                        try clear hfz39_1
                                        try clear hfz39_2
                                        try clear hfz41_0
                                        try clear hfz41_1
                                        try clear hfz41_2
                                        try clear hfz42_0
                                        try clear hfz42_1
                                        try clear hfz42_2
                                        try clear hfz44_0
                                        try clear hfz44_1
                                        try clear hfz44_2
                                        try clear hfz46_0
                                        try clear hfz46_1
                                        try clear hfz46_2
                                        try clear hfz47_0
                                        try clear hfz47_1
                                        try clear hfz47_2
                                        try clear hfz49_0
                                        try clear hfz49_1
                                        try clear hfz49_2
                                        try clear hfz51_0
                                        try clear hfz51_1
                                        try clear hfz51_2
                                        try clear hfz59_0
                                        try clear hfz59_1
                                        try clear hfz59_2
                                        try clear hx233_0
                                        try clear hx23_0
                                        try clear hx240_0
                                        try clear hx240_1
                                        try clear hx240_2
                                        try clear hx241_0
                                        try clear p2
                                        try clear p23
                                        try clear p233
                                        try clear p24
                                        try clear p240
                                        try clear p241
                                        try clear p6
                                        try clear q2
                                        try clear q23
                                        try clear q233
                                        try clear q24
                                        try clear q240
                                        try clear q241
                                        obtain ⟨x10_6, rfl, HA, HK6, HO_233000, HO_233001, HO_233002, BK232, HB⟩ := hrel
                                        cases gk with
                                        | zero => exact absurd HA.out (by simp [backsteplaw10_StateStarts.l2])
                                        | succ k6 =>
                                          have H := HA.out
                                          clear HA
                                          simp only [backsteplaw10_StateStarts.l2] at H
                                          by_cases c61 : 0 ≤ x9_4
                                          · rw [if_pos c61] at H
                                            have c61b0 : decide (0 ≤ x9_4) = true := decide_eq_true c61
                                            clear c61
                                            by_cases c62 : x9_4 < (t222.length : Int)
                                            · rw [if_pos c62] at H
                                              have c62b0 : decide (x9_4 < (t222.length : Int)) = true := decide_eq_true c62
                                              clear c62
                                              by_cases c63 : x10_6 < ((rd_L1 t222 x9_4).length : Int)
                                              · rw [if_pos c63] at H
                                                have c63b0 : decide (x10_6 < ((rd_L1 t222 x9_4).length : Int)) = true := decide_eq_true c63
                                                clear c63
                                                by_cases c64 : 0 ≤ x10_6
                                                · rw [if_pos c64] at H
                                                  have c64b0 : decide (0 ≤ x10_6) = true := decide_eq_true c64
                                                  clear c64
                                                  by_cases c65 : (rd (rd_L1 t222 x9_4) x10_6) = 0
                                                  · rw [if_pos c65] at H
                                                    have c65b0 : ((rd (rd_L1 t222 x9_4) x10_6) == 0) = true := beq_iff_eq.mpr c65
                                                    have c65b1 : ((rd (rd_L1 t222 x9_4) x10_6) != 0) = false := bne_eq_false_iff_eq.mpr c65
                                                    clear c65
                                                    have H' := Aside0.mk H
                                                    clear H
                                                    have hcz66_0 : wr.cell? ⟨gb232, 0, none⟩ = some (.slice Ao17 t222.length co17) := (blk_cell BK232.out 0).trans rfl
                                                    have hcz66_1 : wr.cell? ⟨gb232, 1, none⟩ = some (.slice Ao19 t225.length co19) := (blk_cell BK232.out 1).trans rfl
                                                    have hcz66_2 : wr.cell? ⟨gb232, 2, none⟩ = some (.slice Ao20 t228.length co20) := (blk_cell BK232.out 2).trans rfl
                                                    have hfz66_0 := blk_frozen BK232.out 0
                                                    have hfz66_1 := blk_frozen BK232.out 1
                                                    have hfz66_2 := blk_frozen BK232.out 2
                                                    have p242 : 0 ≤ (x9_4 : Int) := of_decide_eq_true (by first | (with_reducible assumption) | assumption)
                                                    have q242 : x9_4 < (t222.length : Int) := of_decide_eq_true (by first | (with_reducible assumption) | assumption)
                                                    obtain ⟨ad242, A242_0, c242_0, e242, hx242_0, hl242_0, hi242_0⟩ := at_L1 (Kd.S_reads' HO_233000.out).2.2 x9_4 p242 q242
                                                    cases e242
                                                    obtain ⟨ce242, hce242, hMe242, hcc242⟩ := Kd.S_get HO_233000.out [] x9_4 p242 (by first | exact q242 | exact of_decide_eq_true (by first | (with_reducible assumption) | assumption) | (have e_ := (Kd.S_reads' HO_233000.out).1; omega))
                                                    obtain ⟨ve242_0, rfl, ge242_0⟩ := hMe242
                                                    have hv242_0 := hcc242 0 _ rfl
                                                    rw [Nat.add_zero, show ((Kd.slice 3 (Kd.int .i64))).sz = 1 from rfl, Nat.mul_one] at hv242_0
                                                    replace hv242_0 := Option.some.inj (hv242_0.symm.trans hx242_0)
                                                    rw [hv242_0] at ge242_0
                                                    have HL242_0 := Aside0.mk (show Kd.R (Kd.int .i64) 3 _ _ _ _ (rd_L1 t222 x9_4) from ge242_0)
                                                    clear hv242_0 ge242_0
                                                    clear hcc242 hce242
                                                    have HR242_0 := Aside0.mk hi242_0
                                                    have HC242_0 := Aside0.mk hl242_0
                                                    clear hi242_0 hl242_0
                                                    replace p242 := eq_true p242
                                                    replace q242 := eq_true q242
                                                    have p243 : 0 ≤ (x9_4 : Int) := of_decide_eq_true (by first | (with_reducible assumption) | assumption)
                                                    have q243 : x9_4 < (t222.length : Int) := of_decide_eq_true (by first | (with_reducible assumption) | assumption)
                                                    obtain ⟨ad243, A243_0, c243_0, e243, hx243_0, hl243_0, hi243_0⟩ := at_L1 (Kd.S_reads' HO_233000.out).2.2 x9_4 p243 q243
                                                    obtain rfl : ad242 = ad243 := (by injection e243)
                                                    obtain ⟨ce243, hce243, hMe243, hcc243⟩ := Kd.S_get HO_233000.out [] x9_4 p243 (by first | exact q243 | exact of_decide_eq_true (by first | (with_reducible assumption) | assumption) | (have e_ := (Kd.S_reads' HO_233000.out).1; omega))
                                                    obtain ⟨ve243_0, rfl, ge243_0⟩ := hMe243
                                                    have hv243_0 := hcc243 0 _ rfl
                                                    rw [Nat.add_zero, show ((Kd.slice 3 (Kd.int .i64))).sz = 1 from rfl, Nat.mul_one] at hv243_0
                                                    replace hv243_0 := Option.some.inj (hv243_0.symm.trans hx243_0)
                                                    rw [hv243_0] at ge243_0
                                                    have HL243_0 := Aside0.mk (show Kd.R (Kd.int .i64) 3 _ _ _ _ (rd_L1 t222 x9_4) from ge243_0)
                                                    clear hv243_0 ge243_0
                                                    clear hcc243 hce243
                                                    have HR243_0 := Aside0.mk hi243_0
                                                    have HC243_0 := Aside0.mk hl243_0
                                                    clear hi243_0 hl243_0
                                                    replace p243 := eq_true p243
                                                    replace q243 := eq_true q243
                                                    have ea_ := Option.some.inj (hx242_0.symm.trans hx243_0)
                                                    injection ea_ with ea_ en_ ec_
                                                    subst ea_
                                                    subst ec_
                                                    clear en_
                                                    have p244 : 0 ≤ (x10_6 : Int) := of_decide_eq_true (by first | (with_reducible assumption) | assumption)
                                                    have q244 : x10_6 < ((rd_L1 t222 x9_4).length : Int) := of_decide_eq_true (by first | (with_reducible assumption) | assumption)
                                                    obtain ⟨ad244, e244, hx244_0⟩ := Kd.at_int (by repeat (first | (with_reducible exact HR243_0.out) | (with_reducible refine Kd.C_alloc ?_ _) | (with_reducible refine Kd.C_drewN ?_ _) | (with_reducible refine Kd.C_drew ?_) | exact HR243_0.out)) x10_6 p244 q244
                                                    cases e244
                                                    replace p244 := eq_true p244
                                                    replace q244 := eq_true q244
                                                    go_wp2
                                                    go_roundg k6
                                                    case measure => have := HJ4.out; have := HK2.out; have := HJ27.out; have := HK4.out; have := HJ54.out; have := HK6.out; omega
                                                    case rel => exact ⟨(wrap64 (x10_6 + 1)), (by first | rfl | (simp; done) | (simp [*]; done)), H', ⟨by have := HJ4.out; have := HK2.out; have := HJ27.out; have := HK4.out; have := HJ54.out; have := HK6.out; omega⟩, ⟨by (try simp only [hl5_2]); (with_reducible repeat (first | apply Kd.S_alloc | apply Kd.S_drewN | apply Kd.S_drew)); exact HO_233000.out⟩, ⟨by (try simp only [hl5_2]); (with_reducible repeat (first | apply Kd.R_alloc | apply Kd.R_drewN | apply Kd.R_drew)); exact HO_233001.out⟩, ⟨by (try simp only [hl5_2]); (with_reducible repeat (first | apply Kd.R_alloc | apply Kd.R_drewN | apply Kd.R_drew)); exact HO_233002.out⟩, ⟨by (try simp only [hl5_2]); (with_reducible repeat (first | refine blk_drewN ?_ _ | refine blk_drew ?_ | refine blk_alloc ?_ _)); exact BK232.out⟩, ⟨by repeat (first | (with_reducible first | exact HB.out | apply below_alloc | apply pw_below_drewN | apply below_drew1 | refine below_set ?_ GE232.out) | exact HB.out)⟩⟩
                                                  · rw [if_neg c65] at H
                                                    have c65b0 : ((rd (rd_L1 t222 x9_4) x10_6) == 0) = false := beq_eq_false_iff_ne.mpr c65
                                                    have c65b1 : ((rd (rd_L1 t222 x9_4) x10_6) != 0) = true := bne_iff_ne.mpr c65
                                                    obtain rfl := Option.some.inj H
                                                    have hcz67_0 : wr.cell? ⟨gb232, 0, none⟩ = some (.slice Ao17 t222.length co17) := (blk_cell BK232.out 0).trans rfl
                                                    have hcz67_1 : wr.cell? ⟨gb232, 1, none⟩ = some (.slice Ao19 t225.length co19) := (blk_cell BK232.out 1).trans rfl
                                                    have hcz67_2 : wr.cell? ⟨gb232, 2, none⟩ = some (.slice Ao20 t228.length co20) := (blk_cell BK232.out 2).trans rfl
                                                    have hfz67_0 := blk_frozen BK232.out 0
                                                    have hfz67_1 := blk_frozen BK232.out 1
                                                    have hfz67_2 := blk_frozen BK232.out 2
                                                    have p242 : 0 ≤ (x9_4 : Int) := of_decide_eq_true (by first | (with_reducible assumption) | assumption)
                                                    have q242 : x9_4 < (t222.length : Int) := of_decide_eq_true (by first | (with_reducible assumption) | assumption)
                                                    obtain ⟨ad242, A242_0, c242_0, e242, hx242_0, hl242_0, hi242_0⟩ := at_L1 (Kd.S_reads' HO_233000.out).2.2 x9_4 p242 q242
                                                    cases e242
                                                    obtain ⟨ce242, hce242, hMe242, hcc242⟩ := Kd.S_get HO_233000.out [] x9_4 p242 (by first | exact q242 | exact of_decide_eq_true (by first | (with_reducible assumption) | assumption) | (have e_ := (Kd.S_reads' HO_233000.out).1; omega))
                                                    obtain ⟨ve242_0, rfl, ge242_0⟩ := hMe242
                                                    have hv242_0 := hcc242 0 _ rfl
                                                    rw [Nat.add_zero, show ((Kd.slice 3 (Kd.int .i64))).sz = 1 from rfl, Nat.mul_one] at hv242_0
                                                    replace hv242_0 := Option.some.inj (hv242_0.symm.trans hx242_0)
                                                    rw [hv242_0] at ge242_0
                                                    have HL242_0 := Aside0.mk (show Kd.R (Kd.int .i64) 3 _ _ _ _ (rd_L1 t222 x9_4) from ge242_0)
                                                    clear hv242_0 ge242_0
                                                    clear hcc242 hce242
                                                    have HR242_0 := Aside0.mk hi242_0
                                                    have HC242_0 := Aside0.mk hl242_0
                                                    clear hi242_0 hl242_0
                                                    replace p242 := eq_true p242
                                                    replace q242 := eq_true q242
                                                    have p243 : 0 ≤ (x9_4 : Int) := of_decide_eq_true (by first | (with_reducible assumption) | assumption)
                                                    have q243 : x9_4 < (t222.length : Int) := of_decide_eq_true (by first | (with_reducible assumption) | assumption)
                                                    obtain ⟨ad243, A243_0, c243_0, e243, hx243_0, hl243_0, hi243_0⟩ := at_L1 (Kd.S_reads' HO_233000.out).2.2 x9_4 p243 q243
                                                    obtain rfl : ad242 = ad243 := (by injection e243)
                                                    obtain ⟨ce243, hce243, hMe243, hcc243⟩ := Kd.S_get HO_233000.out [] x9_4 p243 (by first | exact q243 | exact of_decide_eq_true (by first | (with_reducible assumption) | assumption) | (have e_ := (Kd.S_reads' HO_233000.out).1; omega))
                                                    obtain ⟨ve243_0, rfl, ge243_0⟩ := hMe243
                                                    have hv243_0 := hcc243 0 _ rfl
                                                    rw [Nat.add_zero, show ((Kd.slice 3 (Kd.int .i64))).sz = 1 from rfl, Nat.mul_one] at hv243_0
                                                    replace hv243_0 := Option.some.inj (hv243_0.symm.trans hx243_0)
                                                    rw [hv243_0] at ge243_0
                                                    have HL243_0 := Aside0.mk (show Kd.R (Kd.int .i64) 3 _ _ _ _ (rd_L1 t222 x9_4) from ge243_0)
                                                    clear hv243_0 ge243_0
                                                    clear hcc243 hce243
                                                    have HR243_0 := Aside0.mk hi243_0
                                                    have HC243_0 := Aside0.mk hl243_0
                                                    clear hi243_0 hl243_0
                                                    replace p243 := eq_true p243
                                                    replace q243 := eq_true q243
                                                    have ea_ := Option.some.inj (hx242_0.symm.trans hx243_0)
                                                    injection ea_ with ea_ en_ ec_
                                                    subst ea_
                                                    subst ec_
                                                    clear en_
                                                    have p244 : 0 ≤ (x10_6 : Int) := of_decide_eq_true (by first | (with_reducible assumption) | assumption)
                                                    have q244 : x10_6 < ((rd_L1 t222 x9_4).length : Int) := of_decide_eq_true (by first | (with_reducible assumption) | assumption)
                                                    obtain ⟨ad244, e244, hx244_0⟩ := Kd.at_int (by repeat (first | (with_reducible exact HR243_0.out) | (with_reducible refine Kd.C_alloc ?_ _) | (with_reducible refine Kd.C_drewN ?_ _) | (with_reducible refine Kd.C_drew ?_) | exact HR243_0.out)) x10_6 p244 q244
                                                    cases e244
                                                    replace p244 := eq_true p244
                                                    replace q244 := eq_true q244
                                                    go_wp2
                                                    go_ret
                                                    exact ⟨by first | rfl | (simp [errW_none, errW_some] <;> rfl) | (simp [*, errW_none, errW_some] <;> rfl), by repeat (first | (with_reducible first | exact HB.out | apply below_alloc | apply pw_below_drewN | apply below_drew1 | refine below_set ?_ GE232.out) | exact HB.out)⟩
                                                · rw [if_neg c64] at H
                                                  exact absurd H (by simp)
                                              · rw [if_neg c63] at H
                                                have c63b0 : decide (x10_6 < ((rd_L1 t222 x9_4).length : Int)) = false := decide_eq_false c63
                                                clear c63
                                                have H' := Aside0.mk H
                                                clear H
                                                have hcz68_0 : wr.cell? ⟨gb232, 0, none⟩ = some (.slice Ao17 t222.length co17) := (blk_cell BK232.out 0).trans rfl
                                                have hcz68_1 : wr.cell? ⟨gb232, 1, none⟩ = some (.slice Ao19 t225.length co19) := (blk_cell BK232.out 1).trans rfl
                                                have hcz68_2 : wr.cell? ⟨gb232, 2, none⟩ = some (.slice Ao20 t228.length co20) := (blk_cell BK232.out 2).trans rfl
                                                have hfz68_0 := blk_frozen BK232.out 0
                                                have hfz68_1 := blk_frozen BK232.out 1
                                                have hfz68_2 := blk_frozen BK232.out 2
                                                have p242 : 0 ≤ (x9_4 : Int) := of_decide_eq_true (by first | (with_reducible assumption) | assumption)
                                                have q242 : x9_4 < (t222.length : Int) := of_decide_eq_true (by first | (with_reducible assumption) | assumption)
                                                obtain ⟨ad242, A242_0, c242_0, e242, hx242_0, hl242_0, hi242_0⟩ := at_L1 (Kd.S_reads' HO_233000.out).2.2 x9_4 p242 q242
                                                cases e242
                                                obtain ⟨ce242, hce242, hMe242, hcc242⟩ := Kd.S_get HO_233000.out [] x9_4 p242 (by first | exact q242 | exact of_decide_eq_true (by first | (with_reducible assumption) | assumption) | (have e_ := (Kd.S_reads' HO_233000.out).1; omega))
                                                obtain ⟨ve242_0, rfl, ge242_0⟩ := hMe242
                                                have hv242_0 := hcc242 0 _ rfl
                                                rw [Nat.add_zero, show ((Kd.slice 3 (Kd.int .i64))).sz = 1 from rfl, Nat.mul_one] at hv242_0
                                                replace hv242_0 := Option.some.inj (hv242_0.symm.trans hx242_0)
                                                rw [hv242_0] at ge242_0
                                                have HL242_0 := Aside0.mk (show Kd.R (Kd.int .i64) 3 _ _ _ _ (rd_L1 t222 x9_4) from ge242_0)
                                                clear hv242_0 ge242_0
                                                clear hcc242 hce242
                                                have HR242_0 := Aside0.mk hi242_0
                                                have HC242_0 := Aside0.mk hl242_0
                                                clear hi242_0 hl242_0
                                                replace p242 := eq_true p242
                                                replace q242 := eq_true q242
                                                go_wp2
                                                go_roundg k6
                                                case measure => have := HJ4.out; have := HK2.out; have := HJ27.out; have := HK4.out; have := HJ54.out; have := HK6.out; omega
                                                case rel => exact ⟨(wrap64 (x9_4 + 1)), (by first | rfl | (simp; done) | (simp [*]; done)), H', ⟨by have := HJ4.out; have := HK2.out; have := HJ27.out; have := HK4.out; have := HJ54.out; have := HK6.out; omega⟩, ⟨by (try simp only [hl5_2]); (with_reducible repeat (first | apply Kd.S_alloc | apply Kd.S_drewN | apply Kd.S_drew)); exact HO_233000.out⟩, ⟨by (try simp only [hl5_2]); (with_reducible repeat (first | apply Kd.R_alloc | apply Kd.R_drewN | apply Kd.R_drew)); exact HO_233001.out⟩, ⟨by (try simp only [hl5_2]); (with_reducible repeat (first | apply Kd.R_alloc | apply Kd.R_drewN | apply Kd.R_drew)); exact HO_233002.out⟩, ⟨by (try simp only [hl5_2]); (with_reducible repeat (first | refine blk_drewN ?_ _ | refine blk_drew ?_ | refine blk_alloc ?_ _)); exact BK232.out⟩, ⟨by repeat (first | (with_reducible first | exact HB.out | apply below_alloc | apply pw_below_drewN | apply below_drew1 | refine below_set ?_ GE232.out) | exact HB.out)⟩⟩
                                            · rw [if_neg c62] at H
                                              exact absurd H (by simp)
                                          · rw [if_neg c61] at H
                                            exact absurd H (by simp)
                              · rw [if_neg c54] at H
                                have c54b0 : decide (x9_4 < (l0.length : Int)) = false := decide_eq_false c54
                                clear c54
                                obtain rfl := Option.some.inj H
                                go_wp2
                                go_ret
                                exact ⟨by first | rfl | (simp [errW_none, errW_some] <;> rfl) | (simp [*, errW_none, errW_some] <;> rfl), by repeat (first | (with_reducible first | exact HB.out | apply below_alloc | apply pw_below_drewN | apply below_drew1 | refine below_set ?_ GE232.out) | exact HB.out)⟩
                  · replace c27 := Bool.eq_false_iff.mpr c27
                    subst c27
                    have H1 : (if t231 = 3 then ((backstepref10_Equal.f k2 t222 t225 t228 ([] : List (List Int)) ([] : List Int) ([] : List Int)).bind fun t236 => (some t236)) else (some false)) = some r := by rw [if_neg (show ¬ (false = true) by decide)] at H; exact H
                    clear H
                    have H := H1
                    clear H1
                    by_cases c69 : t231 = 3
                    · rw [if_pos c69] at H
                      have c69b0 : (t231 == 3) = true := beq_iff_eq.mpr c69
                      have c69b1 : (t231 != 3) = false := bne_eq_false_iff_eq.mpr c69
                      clear c69
                      replace H := Option.bind_eq_some_iff.mp H
                      obtain ⟨t236, A700, H⟩ := H
                      replace H : (some t236) = some r := H
                      have A70 := Aside0.mk A700
                      clear A700
                      obtain rfl := Option.some.inj H
                      go_wp2_with (first | ((with_reducible refine gate_callee (f := 19) rfl ?_); refine goesL_ (some 43) rfl rfl Try.func19 (by kernel_rfl) rfl #[.slice A0 l0.length c0] rfl (by (try simp only [List.map_toArray, List.map_cons, List.map_nil]); first | done | rfl | (simp only [List.length_drop, List.length_take]; rfl)) ?_; (with_reducible refine (backstepref10_Valid.calls k2 _ _ l0 false _ ?side1 ?side2 A26.out).mono ?_); (case side1 => repeat (first | exact (Kd.C_below HR0.out HB.out) | (with_reducible refine Kd.C_alloc ?_ _) | (with_reducible refine Kd.C_drewN ?_ _) | (with_reducible refine Kd.C_drew ?_))); (case side2 => exact HC0.out); rintro e w71 ⟨rfl, hb⟩; refine ⟨_, rfl, ?_⟩; have n0_ := Aside0.mk (Kd.R_below (by (with_reducible repeat (first | apply Kd.R_alloc | apply Kd.R_drewN | apply Kd.R_drew)); exact HO_5.out) hb); have n1_ := Aside0.mk (Kd.S_below (by (with_reducible repeat (first | apply Kd.S_alloc | apply Kd.S_drewN | apply Kd.S_drew)); exact HO_233000.out) hb); have n2_ := Aside0.mk (Kd.R_below (by (with_reducible repeat (first | apply Kd.R_alloc | apply Kd.R_drewN | apply Kd.R_drew)); exact HO_233001.out) hb); have n3_ := Aside0.mk (Kd.R_below (by (with_reducible repeat (first | apply Kd.R_alloc | apply Kd.R_drewN | apply Kd.R_drew)); exact HO_233002.out) hb); have n4_ := Aside0.mk (blk_below (g := gb232) (o := .cells #[.slice Ao17 t222.length co17, .slice Ao19 t225.length co19, .slice Ao20 t228.length co20] 25 (0, 0)) (by (with_reducible repeat (first | refine blk_drewN ?_ _ | refine blk_drew ?_ | refine blk_alloc ?_ _)); exact BK232.out) hb); have n5_ := Aside0.mk (below_step (by repeat (first | (with_reducible first | exact HB.out | apply below_alloc | apply pw_below_drewN | apply below_drew1 | refine below_set ?_ GE232.out) | exact HB.out)) hb); clear HO_5; clear HO_233000; clear HO_233001; clear HO_233002; clear BK232; clear HB; have HO_5 := n0_; have HO_233000 := n1_; have HO_233001 := n2_; have HO_233002 := n3_; have BK232 := n4_; have HB := n5_; clear n0_ n1_ n2_ n3_ n4_ n5_; (try clear hb); (try clear hb2); (try clear hk); (try clear hi); have hcz72_0 : w71.cell? ⟨gb232, 0, none⟩ = some (.slice Ao17 t222.length co17) := (blk_cell BK232.out 0).trans rfl; have hcz72_1 : w71.cell? ⟨gb232, 1, none⟩ = some (.slice Ao19 t225.length co19) := (blk_cell BK232.out 1).trans rfl; have hcz72_2 : w71.cell? ⟨gb232, 2, none⟩ = some (.slice Ao20 t228.length co20) := (blk_cell BK232.out 2).trans rfl; have hfz72_0 := blk_frozen BK232.out 0; have hfz72_1 := blk_frozen BK232.out 1; have hfz72_2 := blk_frozen BK232.out 2) | (go_at_call 20; (refine (backstepref10_Equal.calls k2 _ _ t222 _ _ t225 _ _ t228 _ _ ([] : List (List Int)) _ _ ([] : List Int) _ _ ([] : List Int) t236 _ ?side1 ?side2 ?side3 ?side4 ?side5 ?side6 ?side7 ?side8 ?side9 ?side10 ?side11 ?side12 A70.out).mono ?_); (case side1 => repeat (first | exact (Kd.S_reads' HO_233000.out).2.2 | (with_reducible refine Kd.C_alloc ?_ _) | (with_reducible refine Kd.C_drewN ?_ _) | (with_reducible refine Kd.C_drew ?_))); (case side2 => exact (Kd.S_reads' HO_233000.out).2.1); (case side3 => repeat (first | exact (Kd.R_reads' HO_233001.out).2.2 | (with_reducible refine Kd.C_alloc ?_ _) | (with_reducible refine Kd.C_drewN ?_ _) | (with_reducible refine Kd.C_drew ?_))); (case side4 => exact (Kd.R_reads' HO_233001.out).2.1); (case side5 => repeat (first | exact (Kd.R_reads' HO_233002.out).2.2 | (with_reducible refine Kd.C_alloc ?_ _) | (with_reducible refine Kd.C_drewN ?_ _) | (with_reducible refine Kd.C_drew ?_))); (case side6 => exact (Kd.R_reads' HO_233002.out).2.1); (case side7 => exact Kd.C_nil _ _); (case side8 => exact Nat.le_refl _); (case side9 => exact Kd.C_nil _ _); (case side10 => exact Nat.le_refl _); (case side11 => exact Kd.C_nil _ _); (case side12 => exact Nat.le_refl _); rintro e w73 ⟨rfl, hb⟩; have n0_ := Aside0.mk (Kd.R_below (by (with_reducible repeat (first | apply Kd.R_alloc | apply Kd.R_drewN | apply Kd.R_drew)); exact HO_5.out) hb); have n1_ := Aside0.mk (Kd.S_below (by (with_reducible repeat (first | apply Kd.S_alloc | apply Kd.S_drewN | apply Kd.S_drew)); exact HO_233000.out) hb); have n2_ := Aside0.mk (Kd.R_below (by (with_reducible repeat (first | apply Kd.R_alloc | apply Kd.R_drewN | apply Kd.R_drew)); exact HO_233001.out) hb); have n3_ := Aside0.mk (Kd.R_below (by (with_reducible repeat (first | apply Kd.R_alloc | apply Kd.R_drewN | apply Kd.R_drew)); exact HO_233002.out) hb); have n4_ := Aside0.mk (blk_below (g := gb232) (o := .cells #[.slice Ao17 t222.length co17, .slice Ao19 t225.length co19, .slice Ao20 t228.length co20] 25 (0, 0)) (by (with_reducible repeat (first | refine blk_drewN ?_ _ | refine blk_drew ?_ | refine blk_alloc ?_ _)); exact BK232.out) hb); have n5_ := Aside0.mk (below_step (by repeat (first | (with_reducible first | exact HB.out | apply below_alloc | apply pw_below_drewN | apply below_drew1 | refine below_set ?_ GE232.out) | exact HB.out)) hb); clear HO_5; clear HO_233000; clear HO_233001; clear HO_233002; clear BK232; clear HB; have HO_5 := n0_; have HO_233000 := n1_; have HO_233001 := n2_; have HO_233002 := n3_; have BK232 := n4_; have HB := n5_; clear n0_ n1_ n2_ n3_ n4_ n5_; (try clear hb); (try clear hb2); (try clear hk); (try clear hi)))
                      go_ret
                      exact ⟨by first | rfl | (simp [errW_none, errW_some] <;> rfl) | (simp [*, errW_none, errW_some] <;> rfl), by repeat (first | (with_reducible first | exact HB.out | apply below_alloc | apply pw_below_drewN | apply below_drew1 | refine below_set ?_ GE232.out) | exact HB.out)⟩
                    · rw [if_neg c69] at H
                      have c69b0 : (t231 == 3) = false := beq_eq_false_iff_ne.mpr c69
                      have c69b1 : (t231 != 3) = true := bne_iff_ne.mpr c69
                      obtain rfl := Option.some.inj H
                      go_wp2_with (first | ((with_reducible refine gate_callee (f := 19) rfl ?_); refine goesL_ (some 43) rfl rfl Try.func19 (by kernel_rfl) rfl #[.slice A0 l0.length c0] rfl (by (try simp only [List.map_toArray, List.map_cons, List.map_nil]); first | done | rfl | (simp only [List.length_drop, List.length_take]; rfl)) ?_; (with_reducible refine (backstepref10_Valid.calls k2 _ _ l0 false _ ?side1 ?side2 A26.out).mono ?_); (case side1 => repeat (first | exact (Kd.C_below HR0.out HB.out) | (with_reducible refine Kd.C_alloc ?_ _) | (with_reducible refine Kd.C_drewN ?_ _) | (with_reducible refine Kd.C_drew ?_))); (case side2 => exact HC0.out); rintro e w74 ⟨rfl, hb⟩; refine ⟨_, rfl, ?_⟩; have n0_ := Aside0.mk (Kd.R_below (by (with_reducible repeat (first | apply Kd.R_alloc | apply Kd.R_drewN | apply Kd.R_drew)); exact HO_5.out) hb); have n1_ := Aside0.mk (Kd.S_below (by (with_reducible repeat (first | apply Kd.S_alloc | apply Kd.S_drewN | apply Kd.S_drew)); exact HO_233000.out) hb); have n2_ := Aside0.mk (Kd.R_below (by (with_reducible repeat (first | apply Kd.R_alloc | apply Kd.R_drewN | apply Kd.R_drew)); exact HO_233001.out) hb); have n3_ := Aside0.mk (Kd.R_below (by (with_reducible repeat (first | apply Kd.R_alloc | apply Kd.R_drewN | apply Kd.R_drew)); exact HO_233002.out) hb); have n4_ := Aside0.mk (blk_below (g := gb232) (o := .cells #[.slice Ao17 t222.length co17, .slice Ao19 t225.length co19, .slice Ao20 t228.length co20] 25 (0, 0)) (by (with_reducible repeat (first | refine blk_drewN ?_ _ | refine blk_drew ?_ | refine blk_alloc ?_ _)); exact BK232.out) hb); have n5_ := Aside0.mk (below_step (by repeat (first | (with_reducible first | exact HB.out | apply below_alloc | apply pw_below_drewN | apply below_drew1 | refine below_set ?_ GE232.out) | exact HB.out)) hb); clear HO_5; clear HO_233000; clear HO_233001; clear HO_233002; clear BK232; clear HB; have HO_5 := n0_; have HO_233000 := n1_; have HO_233001 := n2_; have HO_233002 := n3_; have BK232 := n4_; have HB := n5_; clear n0_ n1_ n2_ n3_ n4_ n5_; (try clear hb); (try clear hb2); (try clear hk); (try clear hi)))
                      go_ret
                      exact ⟨by first | rfl | (simp [errW_none, errW_some] <;> rfl) | (simp [*, errW_none, errW_some] <;> rfl), by repeat (first | (with_reducible first | exact HB.out | apply below_alloc | apply pw_below_drewN | apply below_drew1 | refine below_set ?_ GE232.out) | exact HB.out)⟩
          · rw [if_neg c9] at H
            exact absurd H (by simp)
  · replace c4 := Bool.eq_false_iff.mpr c4
    subst c4
    have H1 : (some false) = some r := by rw [if_neg (show ¬ (false = true) by decide)] at H; exact H
    clear H
    have H := H1
    clear H1
    obtain rfl := Option.some.inj H
    go_enter Try.func4, Try.ntmps4
    go_wp2_with (first | ((with_reducible refine gate_callee (f := 13) rfl ?_); refine goesL_ (some 11) rfl rfl Try.func13 (by kernel_rfl) rfl #[] rfl (by (try simp only [List.map_toArray, List.map_cons, List.map_nil]); first | done | rfl | (simp only [List.length_drop, List.length_take]; rfl)) ?_; (with_reducible refine (backsteplaw10_awake.calls k  false _ A3.out).mono ?_); rintro e w75 ⟨rfl, hb⟩; refine ⟨_, rfl, ?_⟩; have n0_ := Aside0.mk (below_step (by repeat (first | (with_reducible first | exact HB.out | apply below_alloc | apply pw_below_drewN | apply below_drew1) | exact HB.out)) hb); clear HB; have HB := n0_; clear n0_; (try clear hb); (try clear hb2); (try clear hk); (try clear hi)))
    go_ret
    exact ⟨by first | rfl | (simp [errW_none, errW_some] <;> rfl) | (simp [*, errW_none, errW_some] <;> rfl), by repeat (first | (with_reducible first | exact HB.out | apply below_alloc | apply pw_below_drewN | apply below_drew1) | exact HB.out)⟩

end Go.Proofs.Ytjphfhmkpknfaaa.PAll
