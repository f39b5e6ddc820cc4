/- A state that a law is handed: three slices. -/
import Derived.Test.YtjphfhmkpknfaaaOpen
set_option linter.unusedVariables false
set_option linter.unusedSimpArgs false
namespace Go.Proofs.Ytjphfhmkpknfaaa.PAll
open Go.RowKit Go.ChangeShapes Go.WideShapes Go.ChangeAt Go.Proofs.YtjphfhmkpknfaaaW.PrintWords Go.Proofs.YtjphfhmkpknfaaaW.PrintLast
variable {H : Type} {enc : TypeId × Value → H} {w : World} {base : Nat} {spare : Nat → Bool} {held : Bool}
def goodInts (l : List Int) : Prop := ∀ x ∈ l, (Lit.int .i64 x).wf = true
set_option maxRecDepth 100000 in
theorem open_state {W : World} {r : Reach} {b0 : Nat} {v : Value} {dd : DataW H} {p : List MemPlace} (hval : Value.okWide Try.prog W r b0 25 v) (h : DataW.Trod enc Try.prog w base spare held 25 v dd p) :
    ∃ A0 c0, ∃ l0 : List (List Int), ∃ A1 c1, ∃ l1 : List Int, ∃ A2 c2, ∃ l2 : List Int, v = .agg #[.slice A0 l0.length c0, .slice A1 l1.length c1, .slice A2 l2.length c2] ∧
      (l0.length ≤ c0 ∧ Kd.C (Kd.slice 3 (Kd.int .i64)) w A0 l0.length l0 ∧ ∀ x ∈ l0, goodInts x) ∧ (l1.length ≤ c1 ∧ Kd.C (Kd.int .i64) w A1 l1.length l1 ∧ goodInts l1) ∧ (l2.length ≤ c2 ∧ Kd.C (Kd.int .i64) w A2 l2.length l2 ∧ goodInts l2) := by
  have hv : ∃ cs : Array Value, v = .agg cs ∧ cs.size = Try.prog.cellsOf 25 := by
    unfold Value.okWide at hval
    rw [Try.underlying25] at hval
    obtain ⟨cs, h1, h2, _⟩ := hval
    exact ⟨cs, h1, h2⟩
  obtain ⟨cs, rfl, hsz⟩ := hv
  obtain ⟨fuel, h⟩ := h
  have hcells : (Value.agg cs).cells.toList = cs.toList := rfl
  rw [hcells] at h
  obtain ⟨xs, n, _, _, hcs, hxs, hf⟩ := DataW.trod_struct Try.underlying25 h
  have e25 : Try.prog.cellsOf 25 = 3 := by kernel_rfl
  have hl : cs.toList.length = 3 := by rw [hcs, e25]
  obtain ⟨a, b, c, hcl⟩ : ∃ a b c, cs.toList = [a, b, c] := by
    match cs.toList, hl with
    | [a, b, c], _ => exact ⟨a, b, c, rfl⟩
  obtain rfl : cs = #[a, b, c] := by rw [← Array.toList_inj]; exact hcl
  have hx3 : xs.length = 3 := hxs
  have h0 := hf 0 _ rfl
  have h1 := hf 1 _ rfl
  have h2 := hf 2 _ rfl
  rw [List.getElem?_eq_getElem (by omega)] at h0 h1 h2
  have e3 : Try.prog.cellsOf 3 = 1 := by kernel_rfl
  have e23 : Try.prog.cellsOf 23 = 1 := by kernel_rfl
  have e22 : Try.prog.cellsOf 22 = 1 := by kernel_rfl
  obtain ⟨A0, c0, l0, hs0, g0, C0, w0⟩ := opens_row (d := Kd.slice 3 (Kd.int .i64)) (good := goodInts) Try.underlying22 e23 (opens_slice Try.underlying23 e3 (opens_int Try.underlying3)) h0
  obtain ⟨A1, c1, l1, hs1, g1, C1, w1⟩ := opens_row (d := Kd.int .i64) Try.underlying23 e3 (opens_int Try.underlying3) h1
  obtain ⟨A2, c2, l2, hs2, g2, C2, w2⟩ := opens_row (d := Kd.int .i64) Try.underlying23 e3 (opens_int Try.underlying3) h2
  have hs0' : [a] = [Value.slice A0 l0.length c0] := by
    have : ([a, b, c].drop 0).take (Try.prog.cellsOf 22) = [Value.slice A0 l0.length c0] := hs0
    rw [e22] at this; simpa using this
  have hs1' : [b] = [Value.slice A1 l1.length c1] := by
    have : ([a, b, c].drop 1).take (Try.prog.cellsOf 23) = [Value.slice A1 l1.length c1] := hs1
    rw [e23] at this; simpa using this
  have hs2' : [c] = [Value.slice A2 l2.length c2] := by
    have : ([a, b, c].drop 2).take (Try.prog.cellsOf 23) = [Value.slice A2 l2.length c2] := hs2
    rw [e23] at this; simpa using this
  obtain rfl : a = .slice A0 l0.length c0 := by simpa using hs0'
  obtain rfl : b = .slice A1 l1.length c1 := by simpa using hs1'
  obtain rfl : c = .slice A2 l2.length c2 := by simpa using hs2'
  exact ⟨A0, c0, l0, A1, c1, l1, A2, c2, l2, rfl, ⟨g0, C0, w0⟩, ⟨g1, C1, w1⟩, ⟨g2, C2, w2⟩⟩
end Go.Proofs.Ytjphfhmkpknfaaa.PAll
