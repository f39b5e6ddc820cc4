/- backsteplaw12.EnumerateLess returns true for every input of bulk at most 1048576. Conditions: none beyond the statement's. -/
import Derived.Test.YtgcdeablfoomhaaRows
import Derived.Test.YtgcdeablfoomhaaLe7
import Derived.WalkKit
import Derived.ProofKit
import Derived.OpenShut
import Derived.ShutString
import Derived.ChangeOld
import Derived.Below
import Derived.SizedLaws
import Derived.ChangeArms
import Derived.DataElems
import Derived.JoinedCond
namespace Go.Proofs.Ytgcdeablfoomhaa.enumerateLess
open Go.ChangeShapes Go.WideShapes Go.ChangeAt Go.RowKit Go.Proofs.YtgcdeablfoomhaaW.PrintWords
set_option linter.unusedVariables false
theorem own : ownKnob Try.prog.godebug = none := by kernel_rfl
theorem laidOut : laidOutB Try.prog = true := by kernel_rfl
set_option maxRecDepth 100000 in
theorem lifted (os : Os) (started : os.Started) (H : Type) (enc : TypeId × Value → H) (F : Stop.Interp) :
    ReturnsInHanded {} Try.checked os 8 .any ((Rows.OpenSpec.upto Rows.enumerateLessSpec).pre6 enc Try.prog Try.f8 Rows.enumerateLessUptoRow.domain false) (((Rows.OpenSpec.upto Rows.enumerateLessSpec).at F).post enc Try.prog Try.f8 false true false false) := by
  refine returnsInHanded_of_cond (C := Try.checked) (s := Rows.OpenSpec.upto Rows.enumerateLessSpec) (k := Rows.uptoSmall) rfl own started (by kernel_rfl) Try.func8
    (OpenSpec.witness (enc := enc) (C := Try.checked) (s := Rows.OpenSpec.upto Rows.enumerateLessSpec) (k := Rows.uptoSmall) rfl false ⟨#[], #[.agg #[.slice none 0 0, .slice none 0 0, .slice none 0 0], .agg #[.slice none 0 0, .slice none 0 0, .slice none 0 0]], []⟩ 8 (by kernel_rfl) (by kernel_rfl) (by kernel_rfl) (by kernel_rfl)
      (x := ([.agg [.nil, .nil, .nil], .agg [.nil, .nil, .nil]], [], [])) (by kernel_rfl) rfl (by kernel_rfl)) ?_
  intro W base args ds gs before hval0 hW _ hk _
  have hval : ∀ (j : Nat) t v, Try.f8.params[j]? = some t → args[j]? = some v → Value.okWide Try.prog W .any base t v := hval0
  have hW' := hW
  obtain ⟨p, q, hA0, hV, rfl, hfz, hnd⟩ := hW
  have hA : DataW.TrodAll enc Try.prog W 0 (fun _ => true) true Try.f8.params.toList args.toList ds p := hA0
  rw [Try.params8] at hA hval
  obtain ⟨v0, vs0, d0, ds0, p0, q0, hargs, rfl, rfl, h0, r0⟩ := trodAll_cons hA
  obtain ⟨v1, vs1, d1, ds1, p1, q1, rfl, rfl, rfl, h1, r1⟩ := trodAll_cons r0
  obtain ⟨rfl, rfl, rfl⟩ := trodAll_nil r1
  obtain rfl : args = #[v0, v1] := by cases args; simp_all
  obtain ⟨rfl, rfl⟩ := trodVars_none hV
  have k0 := h0
  have lt0 : ∀ x ∈ p0, x.block < W.heap.size := by obtain ⟨m, hm⟩ := k0; exact DataW.trod_lt m _ _ _ hm
  have k1 := h1
  have lt1 : ∀ x ∈ p1, x.block < W.heap.size := by obtain ⟨m, hm⟩ := k1; exact DataW.trod_lt m _ _ _ hm
  obtain ⟨A0_0, c0_0, l0_0, A0_1, c0_1, l0_1, A0_2, c0_2, l0_2, rfl, ⟨hc0_0, hr0_0, g0_0⟩, ⟨hc0_1, hr0_1, g0_1⟩, ⟨hc0_2, hr0_2, g0_2⟩⟩ := PAll.open_state (hval 0 35 v0 rfl rfl) h0
  have z0 := PAll.bulk_state (l1 := l0_1) (l2 := l0_2) h0 hr0_0
  obtain ⟨A1_0, c1_0, l1_0, A1_1, c1_1, l1_1, A1_2, c1_2, l1_2, rfl, ⟨hc1_0, hr1_0, g1_0⟩, ⟨hc1_1, hr1_1, g1_1⟩, ⟨hc1_2, hr1_2, g1_2⟩⟩ := PAll.open_state (hval 1 35 v1 rfl rfl) h1
  have z1 := PAll.bulk_state (l1 := l1_1) (l2 := l1_2) h1 hr1_0
  have hkb : Rows.uptoBulkAll (_) ≤ 1048576 := of_decide_eq_true hk
  simp only [Rows.uptoBulkAll, List.append_nil] at hkb
  clear hA0 hval0
  have y0 := PAll.szL_len (l0_0 ++ [l0_1, l0_2])
  rw [List.length_append, List.length_cons, List.length_cons, List.length_nil] at y0
  have y1 := PAll.szL_len (l1_0 ++ [l1_1, l1_2])
  rw [List.length_append, List.length_cons, List.length_cons, List.length_nil] at y1
  refine (PAll.EnumerateLess_calls A0_0 c0_0 l0_0 A0_1 c0_1 l0_1 A0_2 c0_2 l0_2 A1_0 c1_0 l1_0 A1_1 c1_1 l1_1 A1_2 c1_2 l1_2 W hr0_0 hc0_0 hr0_1 hc0_1 hr0_2 hc0_2 hr1_0 hc1_0 hr1_1 hc1_1 hr1_2 hc1_2 (by omega) (by omega) (by omega) (by omega)).mono fun e W' ⟨he, bel⟩ => ?_
  subst he
  exact ⟨_, rfl, _, _, _, [], _, [], hW', trodAll_mk1 (shut_bool Try.underlying4 _), (trodAll_cons_mk (Below.trod laidOut (by kernel_rfl) (of_decide_eq_true (by kernel_rfl)) k0 bel lt0) (trodAll_cons_mk (Below.trod laidOut (by kernel_rfl) (of_decide_eq_true (by kernel_rfl)) k1 bel lt1) trodAll_mk0)), rfl, bel.frame _, fun h => by cases h⟩
theorem over : Rows.enumerateLessUptoRow.holds Try.pinned (Rows.OpenSpec.upto Rows.enumerateLessSpec) :=
  OpenClaim.holds_of_cond 8 Try.f8 rfl rfl rfl rfl rfl rfl rfl ⟨rfl, rfl, rfl, rfl, rfl⟩ rfl rfl rfl rfl rfl (by kernel_rfl) Try.func8 (by kernel_rfl)
    (of_decide_eq_true (by kernel_rfl)) (by unfold Func.isWrapper; first | (rw [if_pos (by decide +kernel)]; kernel_rfl) | (rw [if_neg (by decide +kernel)]; exact ⟨rfl, rfl⟩))
    (fun os started H enc _ F => lifted os started H enc F)
theorem proved : Rows.EnumerateLessUptoSaid := over
#print axioms proved
end Go.Proofs.Ytgcdeablfoomhaa.enumerateLess
namespace Go.Proofs.Ytgcdeablfoomhaa
/-- The row, under a short name, for the claim. -/
theorem enumerateLessUpto_holds : Rows.EnumerateLessUptoSaid := enumerateLess.proved
end Go.Proofs.Ytgcdeablfoomhaa
