/- What a law is handed: slices and structs, read as the words of the walks read them. -/
import Derived.Test.YtgcdeablfoomhaaPAllx0
import Derived.ChangeArms
import Derived.DataElems
import Derived.OpenShut
import Derived.WalkKit
import Derived.ProofKit
set_option linter.unusedVariables false
set_option linter.unusedSimpArgs false
namespace Go.Proofs.Ytgcdeablfoomhaa.PAll
open Go.RowKit Go.ChangeShapes Go.WideShapes Go.ChangeAt Go.Proofs.YtgcdeablfoomhaaW.PrintWords Go.Proofs.YtgcdeablfoomhaaW.PrintLast

section
variable {H : Type} {enc : TypeId × Value → H} {P : Program} {w : World} {base : Nat} {spare : Nat → Bool} {held : Bool}
/-- The cells of an element, read as an element. -/
def Opens (enc : TypeId × Value → H) (P : Program) (w : World) (base : Nat) (spare : Nat → Bool) (held : Bool) {α : Type} (d : Kd α) (e : TypeId) (good : α → Prop) : Prop :=
  ∀ (fuel : Nat) (cs : List Value) (x : DataW H × List MemPlace), DataW.trod enc P w base spare held fuel e cs = some x → ∃ p, d.K w p cs ∧ good p
theorem add_add_plain (a : Addr) (i j : Nat) : (a.add i).add j = a.add (i + j) := Addr.add_add a i j
theorem opens_row {α : Type} {d : Kd α} {t e : TypeId} {good : α → Prop} (ht : P.underlying t = some (.slice e)) (hc : P.cellsOf e = d.sz) (ho : Opens enc P w base spare held d e good)
    {fuel : Nat} {cs : List Value} {x : DataW H × List MemPlace} (h : DataW.trod enc P w base spare held fuel t cs = some x) :
    ∃ A cap, ∃ l : List α, cs = [.slice A l.length cap] ∧ l.length ≤ cap ∧ d.C w A l.length l ∧ ∀ x ∈ l, good x := by
  rcases DataW.trod_slice ht h with ⟨rfl, _⟩ | ⟨a, len, cap, elems, rest, n, _, rfl, _, hb, hl, hm, hlen, hel, _, _⟩
  · exact ⟨none, 0, [], rfl, Nat.le_refl _, ⟨rfl, by simp, fun hn => by simp at hn⟩, by simp⟩
  · have each : ∀ i : Fin len, ∃ p c, w.cells? base (a.add (i.1 * d.sz)) d.sz = some c ∧ d.K w p c ∧ good p := by
      intro i
      have h1 := hel i.1 i.2
      have hi : i.1 < elems.length := by rw [hlen]; exact i.2
      rw [hc, List.getElem?_eq_getElem hi, Option.bind_eq_some_iff] at h1
      obtain ⟨c, hcs, hy⟩ := h1
      obtain ⟨p, hp, hg⟩ := ho n c _ hy
      exact ⟨p, c, hcs, hp, hg⟩
    obtain ⟨f, hf⟩ := Classical.axiomOfChoice each
    have hL : ((List.finRange len).map f).length = len := by simp
    refine ⟨some a, cap, (List.finRange len).map f, by rw [hL], by rw [hL]; exact hl, ⟨by rw [hL], by rw [hL]; simp only [maxLen] at hm; omega, fun hn => ⟨a, rfl, fun j p hj => ?_⟩⟩, ?_⟩
    · have hjl : j < len := by
        have := (List.getElem?_eq_some_iff.1 hj).1
        rw [hL] at this; exact this
      obtain ⟨c, hcs, hp, hg⟩ := hf ⟨j, hjl⟩
      have he : p = f ⟨j, hjl⟩ := by
        have h2 := (List.getElem?_eq_some_iff.1 hj).2
        simp at h2
        exact h2.symm
      have hs := World.cells?_some hcs
      refine ⟨c, d.K_len hp, by rw [he]; exact hp, fun i u hu => ?_⟩
      have hic : i < d.sz := by have := (List.getElem?_eq_some_iff.1 hu).1; rw [d.K_len hp] at this; exact this
      have h3 := hs.2.2 i hic
      rw [add_add_plain] at h3
      rw [h3]; exact hu
    · intro x hx
      obtain ⟨i, _, rfl⟩ := List.mem_map.1 hx
      obtain ⟨c, _, _, hg⟩ := hf i
      exact hg
theorem opens_int {e : TypeId} {k : IntKind} (he : P.underlying e = some (.int k)) : Opens enc P w base spare held (Kd.int k) e (fun n => (Lit.int k n).wf = true) := by
  intro fuel cs x h
  obtain ⟨n, rfl, _, hw⟩ := DataW.trod_int he h
  exact ⟨n, rfl, hw⟩
theorem opens_string {e : TypeId} (he : P.underlying e = some .string) : Opens enc P w base spare held Kd.string e (fun _ => True) := by
  intro fuel cs x h
  obtain ⟨s, rfl, _, _⟩ := DataW.trod_string he h
  exact ⟨s, rfl, trivial⟩
theorem opens_slice {α : Type} {d : Kd α} {t e : TypeId} {good : α → Prop} (ht : P.underlying t = some (.slice e)) (hc : P.cellsOf e = d.sz) (ho : Opens enc P w base spare held d e good) :
    Opens enc P w base spare held (Kd.slice e d) t (fun l => ∀ x ∈ l, good x) := by
  intro fuel cs x h
  obtain ⟨A, cap, l, rfl, hl, hC, hg⟩ := opens_row ht hc ho h
  exact ⟨l, ⟨A, cap, rfl, hl, hC⟩, hg⟩
end

section
variable {H : Type} {enc : TypeId × Value → H} {w : World} {base : Nat} {spare : Nat → Bool} {held : Bool}
/-- A declaration: its kind and its length in their bounds. -/
theorem opens_48 : Opens enc Try.prog w base spare held k48 48 (fun x => (Lit.int .u8 x.f1).wf = true ∧ (Lit.int .i64 x.f2).wf = true) := by
  intro fuel cs x h
  obtain ⟨xs, n, _, _, hcs, hxs, hf⟩ := DataW.trod_struct Try.underlying48 h
  have hl : cs.length = 3 := by rw [hcs]; kernel_rfl
  obtain ⟨a, b, c, rfl⟩ : ∃ a b c, cs = [a, b, c] := by
    match cs, hl with
    | [a, b, c], _ => exact ⟨a, b, c, rfl⟩
  have hx3 : xs.length = 3 := hxs
  have h0 := hf 0 _ rfl
  have h1 := hf 1 _ rfl
  have h2 := hf 2 _ rfl
  rw [List.getElem?_eq_getElem (by omega)] at h0 h1 h2
  obtain ⟨s, hs, _, _⟩ := DataW.trod_string Try.underlying9 h0
  obtain ⟨k, hk, _, wk⟩ := DataW.trod_int Try.underlying5 h1
  obtain ⟨m, hm, _, wm⟩ := DataW.trod_int Try.underlying3 h2
  have e1 : Try.prog.cellsOf 9 = 1 := by kernel_rfl
  have e2 : Try.prog.cellsOf 5 = 1 := by kernel_rfl
  have e3 : Try.prog.cellsOf 3 = 1 := by kernel_rfl
  have hs' : [a] = [Value.string s] := by
    have : ([a, b, c].drop 0).take (Try.prog.cellsOf 9) = [Value.string s] := hs
    rw [e1] at this; simpa using this
  have hk' : [b] = [Value.int .u8 k] := by
    have : ([a, b, c].drop 1).take (Try.prog.cellsOf 5) = [Value.int .u8 k] := hk
    rw [e2] at this; simpa using this
  have hm' : [c] = [Value.int .i64 m] := by
    have : ([a, b, c].drop 2).take (Try.prog.cellsOf 3) = [Value.int .i64 m] := hm
    rw [e3] at this; simpa using this
  obtain rfl : a = .string s := by simpa using hs'
  obtain rfl : b = .int .u8 k := by simpa using hk'
  obtain rfl : c = .int .i64 m := by simpa using hm'
  exact ⟨⟨s, k, m⟩, k48_mk w ⟨s, k, m⟩, wk, wm⟩
/-- What a slice that a law is handed is. -/
theorem open_rowv {α : Type} {d : Kd α} {t e : TypeId} {good : α → Prop} {v : Value} {dd : DataW H} {p : List MemPlace} (ht : Try.prog.underlying t = some (.slice e)) (hc : Try.prog.cellsOf e = d.sz) (ho : Opens enc Try.prog w base spare held d e good)
    (hv : ∃ A len cap, v = .slice A len cap) (h : DataW.Trod enc Try.prog w base spare held t v dd p) : ∃ A cap, ∃ l : List α, v = .slice A l.length cap ∧ l.length ≤ cap ∧ d.C w A l.length l ∧ ∀ x ∈ l, good x := by
  obtain ⟨A0, len, cap0, rfl⟩ := hv
  obtain ⟨fuel, h⟩ := h
  obtain ⟨A, cap, l, hcs, h1, h2, h3⟩ := opens_row ht hc ho h
  refine ⟨A, cap, l, ?_, h1, h2, h3⟩
  simpa [Value.cells] using hcs
end
end Go.Proofs.Ytgcdeablfoomhaa.PAll
