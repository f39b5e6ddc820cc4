/- A state that a law is handed: three slices. -/
import Derived.Test.YtgcdeablfoomhaaOpen
set_option linter.unusedVariables false
set_option linter.unusedSimpArgs false
namespace Go.Proofs.Ytgcdeablfoomhaa.PAll
open Go.RowKit Go.ChangeShapes Go.WideShapes Go.ChangeAt Go.Proofs.YtgcdeablfoomhaaW.PrintWords Go.Proofs.YtgcdeablfoomhaaW.PrintLast
variable {H : Type} {enc : TypeId × Value → H} {w : World} {base : Nat} {spare : Nat → Bool} {held : Bool}
def goodInts (l : List Int) : Prop := ∀ x ∈ l, (Lit.int .i64 x).wf = true
set_option maxRecDepth 100000 in
theorem open_state {W : World} {r : Reach} {b0 : Nat} {v : Value} {dd : DataW H} {p : List MemPlace} (hval : Value.okWide Try.prog W r b0 35 v) (h : DataW.Trod enc Try.prog w base spare held 35 v dd p) :
    ∃ A0 c0, ∃ l0 : List (List Int), ∃ A1 c1, ∃ l1 : List Int, ∃ A2 c2, ∃ l2 : List Int, v = .agg #[.slice A0 l0.length c0, .slice A1 l1.length c1, .slice A2 l2.length c2] ∧
      (l0.length ≤ c0 ∧ Kd.C (Kd.slice 3 (Kd.int .i64)) w A0 l0.length l0 ∧ ∀ x ∈ l0, goodInts x) ∧ (l1.length ≤ c1 ∧ Kd.C (Kd.int .i64) w A1 l1.length l1 ∧ goodInts l1) ∧ (l2.length ≤ c2 ∧ Kd.C (Kd.int .i64) w A2 l2.length l2 ∧ goodInts l2) := by
  have hv : ∃ cs : Array Value, v = .agg cs ∧ cs.size = Try.prog.cellsOf 35 := by
    unfold Value.okWide at hval
    rw [Try.underlying35] at hval
    obtain ⟨cs, h1, h2, _⟩ := hval
    exact ⟨cs, h1, h2⟩
  obtain ⟨cs, rfl, hsz⟩ := hv
  obtain ⟨fuel, h⟩ := h
  have hcells : (Value.agg cs).cells.toList = cs.toList := rfl
  rw [hcells] at h
  obtain ⟨xs, n, _, _, hcs, hxs, hf⟩ := DataW.trod_struct Try.underlying35 h
  have e35 : Try.prog.cellsOf 35 = 3 := by kernel_rfl
  have hl : cs.toList.length = 3 := by rw [hcs, e35]
  obtain ⟨a, b, c, hcl⟩ : ∃ a b c, cs.toList = [a, b, c] := by
    match cs.toList, hl with
    | [a, b, c], _ => exact ⟨a, b, c, rfl⟩
  obtain rfl : cs = #[a, b, c] := by rw [← Array.toList_inj]; exact hcl
  have hx3 : xs.length = 3 := hxs
  have h0 := hf 0 _ rfl
  have h1 := hf 1 _ rfl
  have h2 := hf 2 _ rfl
  rw [List.getElem?_eq_getElem (by omega)] at h0 h1 h2
  have e3 : Try.prog.cellsOf 3 = 1 := by kernel_rfl
  have e33 : Try.prog.cellsOf 33 = 1 := by kernel_rfl
  have e32 : Try.prog.cellsOf 32 = 1 := by kernel_rfl
  obtain ⟨A0, c0, l0, hs0, g0, C0, w0⟩ := opens_row (d := Kd.slice 3 (Kd.int .i64)) (good := goodInts) Try.underlying32 e33 (opens_slice Try.underlying33 e3 (opens_int Try.underlying3)) h0
  obtain ⟨A1, c1, l1, hs1, g1, C1, w1⟩ := opens_row (d := Kd.int .i64) Try.underlying33 e3 (opens_int Try.underlying3) h1
  obtain ⟨A2, c2, l2, hs2, g2, C2, w2⟩ := opens_row (d := Kd.int .i64) Try.underlying33 e3 (opens_int Try.underlying3) h2
  have hs0' : [a] = [Value.slice A0 l0.length c0] := by
    have : ([a, b, c].drop 0).take (Try.prog.cellsOf 32) = [Value.slice A0 l0.length c0] := hs0
    rw [e32] at this; simpa using this
  have hs1' : [b] = [Value.slice A1 l1.length c1] := by
    have : ([a, b, c].drop 1).take (Try.prog.cellsOf 33) = [Value.slice A1 l1.length c1] := hs1
    rw [e33] at this; simpa using this
  have hs2' : [c] = [Value.slice A2 l2.length c2] := by
    have : ([a, b, c].drop 2).take (Try.prog.cellsOf 33) = [Value.slice A2 l2.length c2] := hs2
    rw [e33] at this; simpa using this
  obtain rfl : a = .slice A0 l0.length c0 := by simpa using hs0'
  obtain rfl : b = .slice A1 l1.length c1 := by simpa using hs1'
  obtain rfl : c = .slice A2 l2.length c2 := by simpa using hs2'
  exact ⟨A0, c0, l0, A1, c1, l1, A2, c2, l2, rfl, ⟨g0, C0, w0⟩, ⟨g1, C1, w1⟩, ⟨g2, C2, w2⟩⟩
theorem weights_at {P : Program} {f : Nat → Bool} : ∀ (ts : List TypeId) (ds : List (DataW H)) (j : Nat) (t : TypeId) (d : DataW H), (DataW.weightsEach P ts ds).all f = true → ts[j]? = some t → ds[j]? = some d → (d.weights P t).all f = true
  | [], _, j, t, d, _, ht, _ => by simp at ht
  | _ :: _, [], j, t, d, _, _, hd => by simp at hd
  | t0 :: ts, d0 :: ds, 0, t, d, h, ht, hd => by
    simp only [List.getElem?_cons_zero, Option.some.injEq] at ht hd
    subst ht hd
    simp only [DataW.weightsEach, List.all_append, Bool.and_eq_true] at h
    exact h.1
  | t0 :: ts, d0 :: ds, j + 1, t, d, h, ht, hd => by
    simp only [DataW.weightsEach, List.all_append, Bool.and_eq_true] at h
    exact weights_at ts ds j t d h.2 (by simpa using ht) (by simpa using hd)
/-- A state's cells are no more than its weight allows. -/
theorem sized_state {A0 : Option Addr} {n0 c0 : Nat} {v1 v2 : Value} {dd : DataW H} {p : List MemPlace} (h : DataW.Trod enc Try.prog w base spare held 35 (.agg #[.slice A0 n0 c0, v1, v2]) dd p) (hw : (dd.weights Try.prog 35).all (· ≤ reachBytes) = true) : n0 * 24 ≤ 140737488351232 := by
  obtain ⟨fuel, h⟩ := h
  obtain ⟨xs, n, _, hx, hcs, hxs, hf⟩ := DataW.trod_struct Try.underlying35 h
  have hx3 : xs.length = 3 := hxs
  have h0 := hf 0 _ rfl
  rw [List.getElem?_eq_getElem (by omega)] at h0
  have e32 : Try.prog.cellsOf 32 = 1 := by kernel_rfl
  have e33 : Try.prog.cellsOf 33 = 1 := by kernel_rfl
  have b33 : Try.prog.bytesOf 33 = 24 := by kernel_rfl
  have hcell : (((Value.agg #[.slice A0 n0 c0, v1, v2]).cells.toList).drop 0).take (Try.prog.cellsOf 32) = [Value.slice A0 n0 c0] := by rw [e32]; rfl
  match xs, hx3 with
  | [x0, x1, x2], _ =>
  have hdd : dd = .agg [x0.1, x1.1, x2.1] := by have := congrArg Prod.fst hx; simpa using this
  subst hdd
  have hw2 : ((x0.1).weights Try.prog 32).all (· ≤ reachBytes) = true := by
    simp only [DataW.weights, Try.underlying35, List.map_cons, List.map_nil, DataW.weightsEach, List.all_append, Bool.and_eq_true] at hw
    exact hw.1
  have h0' : DataW.trod enc Try.prog w base spare held n 32 [Value.slice A0 n0 c0] = some x0 := by
    rw [← hcell]; exact h0
  rcases DataW.trod_slice Try.underlying32 h0' with ⟨hc, _⟩ | ⟨a, len, cap, elems, rest, m, _, hc, hx0, _, _, _, hlen, _, _, _⟩
  · simp at hc
    omega
  · simp at hc
    have hx1 : x0.1 = .slice (elems.map (·.1)) (rest.map (·.1)) := congrArg Prod.fst hx0
    rw [hx1] at hw2
    simp only [DataW.weights, Try.underlying32, List.all_cons, Bool.and_eq_true, decide_eq_true_eq, List.length_map, b33] at hw2
    have h9 := hw2.1
    have hr : reachBytes = 140737488351232 := by decide
    rw [hr, hlen] at h9
    have : n0 = len := hc.2.1
    omega
end Go.Proofs.Ytgcdeablfoomhaa.PAll
