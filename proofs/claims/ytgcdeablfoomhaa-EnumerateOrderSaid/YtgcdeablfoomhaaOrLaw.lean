/- backsteplaw12.EnumerateOrder returns true for every input. Conditions: none beyond the statement's. -/
import Derived.Test.YtgcdeablfoomhaaRows
import Derived.Test.YtgcdeablfoomhaaOr5
import Derived.WalkKit
import Derived.ProofKit
import Derived.OpenShut
import Derived.ShutString
import Derived.ChangeOld
import Derived.Below
import Derived.SizedLaws
import Derived.ChangeArms
import Derived.DataElems
namespace Go.Proofs.Ytgcdeablfoomhaa.enumerateOrder
open Go.ChangeShapes Go.WideShapes Go.ChangeAt Go.RowKit Go.Proofs.YtgcdeablfoomhaaW.PrintWords
set_option linter.unusedVariables false
theorem own : ownKnob Try.prog.godebug = none := by kernel_rfl
theorem laidOut : laidOutB Try.prog = true := by kernel_rfl
set_option maxRecDepth 100000 in
theorem lifted (os : Os) (started : os.Started) (H : Type) (enc : TypeId × Value → H) :
    ReturnsInHanded {} Try.checked os 9 .any (Rows.enumerateOrderSpec.pre6 enc Try.prog Try.f9 Rows.enumerateOrderRow.domain false) (Rows.enumerateOrderSpec.post enc Try.prog Try.f9 false true false false) := by
  refine returnsInHanded_of_change_sized (C := Try.checked) own started (by kernel_rfl) Try.func9
    (ChangeSpec.witness6 (enc := enc) (C := Try.checked) false ⟨#[], #[.agg #[.slice none 0 0, .slice none 0 0, .slice none 0 0], .agg #[.slice none 0 0, .slice none 0 0, .slice none 0 0], .agg #[.slice none 0 0, .slice none 0 0, .slice none 0 0]], []⟩ 8 (by kernel_rfl) (by kernel_rfl) (by kernel_rfl) (by kernel_rfl)) ?_
  intro W base args ds gs before hval0 hW hcnd hsz0 _
  have hval : ∀ (j : Nat) t v, Try.f9.params[j]? = some t → args[j]? = some v → Value.okWide Try.prog W .any base t v := hval0
  have hW' := hW
  obtain ⟨p, q, hA0, hV, rfl, hfz, hnd⟩ := hW
  have hA : DataW.TrodAll enc Try.prog W 0 (fun _ => true) true Try.f9.params.toList args.toList ds p := hA0
  rw [Try.params9] at hA hval
  obtain ⟨v0, vs0, d0, ds0, p0, q0, hargs, rfl, rfl, h0, r0⟩ := trodAll_cons hA
  obtain ⟨v1, vs1, d1, ds1, p1, q1, rfl, rfl, rfl, h1, r1⟩ := trodAll_cons r0
  obtain ⟨v2, vs2, d2, ds2, p2, q2, rfl, rfl, rfl, h2, r2⟩ := trodAll_cons r1
  obtain ⟨rfl, rfl, rfl⟩ := trodAll_nil r2
  obtain rfl : args = #[v0, v1, v2] := by cases args; simp_all
  obtain ⟨rfl, rfl⟩ := trodVars_none hV
  have k0 := h0
  have lt0 : ∀ x ∈ p0, x.block < W.heap.size := by obtain ⟨m, hm⟩ := k0; exact DataW.trod_lt m _ _ _ hm
  have k1 := h1
  have lt1 : ∀ x ∈ p1, x.block < W.heap.size := by obtain ⟨m, hm⟩ := k1; exact DataW.trod_lt m _ _ _ hm
  have k2 := h2
  have lt2 : ∀ x ∈ p2, x.block < W.heap.size := by obtain ⟨m, hm⟩ := k2; exact DataW.trod_lt m _ _ _ hm
  obtain ⟨A0_0, c0_0, l0_0, A0_1, c0_1, l0_1, A0_2, c0_2, l0_2, rfl, ⟨hc0_0, hr0_0, g0_0⟩, ⟨hc0_1, hr0_1, g0_1⟩, ⟨hc0_2, hr0_2, g0_2⟩⟩ := PAll.open_state (hval 0 35 v0 rfl rfl) h0
  have z0 := PAll.sized_state h0 (PAll.weights_at _ _ 0 35 _ hsz0 rfl rfl)
  obtain ⟨A1_0, c1_0, l1_0, A1_1, c1_1, l1_1, A1_2, c1_2, l1_2, rfl, ⟨hc1_0, hr1_0, g1_0⟩, ⟨hc1_1, hr1_1, g1_1⟩, ⟨hc1_2, hr1_2, g1_2⟩⟩ := PAll.open_state (hval 1 35 v1 rfl rfl) h1
  have z1 := PAll.sized_state h1 (PAll.weights_at _ _ 1 35 _ hsz0 rfl rfl)
  obtain ⟨A2_0, c2_0, l2_0, A2_1, c2_1, l2_1, A2_2, c2_2, l2_2, rfl, ⟨hc2_0, hr2_0, g2_0⟩, ⟨hc2_1, hr2_1, g2_1⟩, ⟨hc2_2, hr2_2, g2_2⟩⟩ := PAll.open_state (hval 2 35 v2 rfl rfl) h2
  have z2 := PAll.sized_state h2 (PAll.weights_at _ _ 2 35 _ hsz0 rfl rfl)
  clear hA0 hval0 hsz0
  refine (PAll.EnumerateOrder_calls A0_0 c0_0 l0_0 A0_1 c0_1 l0_1 A0_2 c0_2 l0_2 A1_0 c1_0 l1_0 A1_1 c1_1 l1_1 A1_2 c1_2 l1_2 A2_0 c2_0 l2_0 A2_1 c2_1 l2_1 A2_2 c2_2 l2_2 W hr0_0 hc0_0 hr0_1 hc0_1 hr0_2 hc0_2 hr1_0 hc1_0 hr1_1 hc1_1 hr1_2 hc1_2 hr2_0 hc2_0 hr2_1 hc2_1 hr2_2 hc2_2 (by omega) (by omega) (by omega)).mono fun e W' ⟨he, bel⟩ => ?_
  subst he
  exact ⟨_, rfl, _, _, _, [], _, [], hW', trodAll_mk1 (shut_bool Try.underlying4 _), (trodAll_cons_mk (Below.trod laidOut (by kernel_rfl) (of_decide_eq_true (by kernel_rfl)) k0 bel lt0) (trodAll_cons_mk (Below.trod laidOut (by kernel_rfl) (of_decide_eq_true (by kernel_rfl)) k1 bel lt1) (trodAll_cons_mk (Below.trod laidOut (by kernel_rfl) (of_decide_eq_true (by kernel_rfl)) k2 bel lt2) trodAll_mk0))), rfl, bel.frame _, fun h => by cases h⟩
theorem over : Rows.enumerateOrderRow.holds Try.pinned (OpenSpec.ofChange Rows.enumerateOrderSpec) :=
  OpenClaim.holds_of_wide 9 Try.f9 rfl rfl rfl rfl rfl rfl rfl ⟨rfl, rfl, rfl, rfl, rfl⟩ rfl rfl rfl rfl rfl (by kernel_rfl) Try.func9 (by kernel_rfl)
    (of_decide_eq_true (by kernel_rfl)) (by unfold Func.isWrapper; first | (rw [if_pos (by decide +kernel)]; kernel_rfl) | (rw [if_neg (by decide +kernel)]; exact ⟨rfl, rfl⟩))
    (fun os started H enc _ => lifted os started H enc)
theorem proved : Rows.EnumerateOrderSaid := over
#print axioms proved
end Go.Proofs.Ytgcdeablfoomhaa.enumerateOrder
namespace Go.Proofs.Ytgcdeablfoomhaa
/-- The row, under a short name, for the claim. -/
theorem enumerateOrder_holds : Rows.EnumerateOrderSaid := enumerateOrder.proved
end Go.Proofs.Ytgcdeablfoomhaa
