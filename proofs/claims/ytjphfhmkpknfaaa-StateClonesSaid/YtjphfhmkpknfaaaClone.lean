/- slices.Clone of whole numbers: a new slice that reads alike. -/
import Derived.Test.YtjphfhmkpknfaaaEach
import Derived.Laws.Cover3
set_option linter.unusedVariables false
set_option linter.unusedSimpArgs false
namespace Go.Proofs.Ytjphfhmkpknfaaa.PAll
open Go.RowKit Go.Proofs.YtjphfhmkpknfaaaW.PrintWords Go.Proofs.YtjphfhmkpknfaaaW.PrintLast Go.Proofs.YtjphfhmkpknfaaaW.PrintMore

theorem run_eql_slice_nil' (a : Option Addr) (l c : Nat) (w : World) : (binOp .eql 23 (.slice a l c) (.slice none 0 0)).run Try.prog w = .ok (.bool a.isNone) w := by
  simp only [binOp]
  simp [run_equal_slice_nil w 23 3 a l c Try.underlying23]
attribute [local go_sem] run_eql_slice_nil'
def slices_Clone_int_int.f (l : List Int) : Option (List Int) := if l.length < 1099511627776 then some l else none
set_option maxRecDepth 100000 in
set_option maxHeartbeats 2000000 in
theorem slices_Clone_int_int.calls (A0 : Option Addr) (c0 : Nat) (l0 : List Int) (r : List Int) (w : World) (hr0 : Kd.C (Kd.int .i64) w A0 l0.length l0) (hc0 : l0.length ≤ c0) (h : slices_Clone_int_int.f l0 = some r) :
    Calls Try.prog 39 #[.slice A0 l0.length c0] w fun e w' => ∃ v0_ : Value, e = .returned (v0_) ∧ Kd.R (Kd.int .i64) 3 w' w.heap.size (fun _ => True) v0_ r ∧ Below w.heap.size w w' := by
  unfold slices_Clone_int_int.f at h
  have hg : l0.length < 1099511627776 := by
    by_cases hg : l0.length < 1099511627776
    · exact hg
    · rw [if_neg hg] at h; exact absurd h (by simp)
  rw [if_pos hg] at h
  obtain rfl := Option.some.inj h
  have HR := Lib.hid hr0
  clear hr0 h
  cases A0 with
  | none =>
    obtain rfl : l0 = [] := by
      have := HR.out
      cases l0 with
      | nil => rfl
      | cons x l =>
        obtain ⟨ad, e, _⟩ := Kd.at_int HR.out 0 (by omega) (by simp)
        cases e
    go_enter Try.func39, Try.ntmps39
    go_wp2
    go_ret
    exact ⟨_, rfl, Kd.R_nil _ _ _ _ _, Below.refl _ _⟩
  | some ad =>
    go_enter Try.func39, Try.ntmps39
    go_wp2_with ((with_reducible refine gate_builtin (b := .append) (xs := #[.tmp 5, .tmp 6]) rfl ?_); at_builtin; refine Kd.R_append_rows (Kd.int .i64) (w0 := w) w.heap.size rfl (.tmp 5) (.tmp 6) 23 3 (.int .i64 0) 8 rfl Try.underlying23 info3 rfl (by decide) (by omega) (.slice (some ⟨w.heap.size, 0, none⟩) 0 0) ([] : List Int) l0 (some ad) l0.length c0 (fun _ => True) (fun _ => False) rfl rfl (Kd.R_of_own (own_lit w w.heap.size 3 .i64 [] (Nat.le_refl _) (by simp)) (fun _ _ => trivial)) (Kd.C_alloc HR.out _) (fun _ _ h => h) (fun _ h => h.elim) (fun _ _ => trivial) (below_alloc (Below.refl _ _) _) (by simp) (by simp; omega) ?_; intro v2 w2 ho hb2 hg hat)
    go_ret
    exact ⟨v2, rfl, by simpa using ho, hb2⟩
end Go.Proofs.Ytjphfhmkpknfaaa.PAll
