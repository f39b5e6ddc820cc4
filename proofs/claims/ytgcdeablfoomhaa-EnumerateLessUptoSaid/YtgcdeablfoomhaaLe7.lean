/- Lemmas and walks of one claim, packed into one text by a program (wip/shake.py). -/
import Derived.Test.YtgcdeablfoomhaaRows
import Derived.Test.YtgcdeablfoomhaaLe6
section
set_option linter.unusedVariables false
set_option linter.unusedSimpArgs false
namespace Go.Proofs.Ytgcdeablfoomhaa.PAll
open Go.RowKit Go.ChangeShapes Go.WideShapes Go.ChangeAt Go.Proofs.YtgcdeablfoomhaaW.PrintWords Go.Proofs.YtgcdeablfoomhaaW.PrintLast
section
variable {H : Type} {enc : TypeId × Value → H} {w : World} {base : Nat} {spare : Nat → Bool} {held : Bool}
theorem bulk_one (d : DataW H) : 1 ≤ Rows.uptoBulk d := by
  cases d with
  | lit l => cases l <;> simp [Rows.uptoBulk]
  | nil => simp [Rows.uptoBulk]
  | ptr d => simp [Rows.uptoBulk]
  | slice elems spare => simp [Rows.uptoBulk]
  | agg parts => simp [Rows.uptoBulk]
  | iface t d => simp [Rows.uptoBulk]
  | map entries => simp [Rows.uptoBulk]
  | held h => simp [Rows.uptoBulk]
theorem bulk_len : ∀ (l : List (DataW H)), l.length ≤ Rows.uptoBulkAll l
  | [] => Nat.zero_le _
  | x :: r => by have := bulk_one x; have := bulk_len r; simp only [Rows.uptoBulkAll, List.length_cons]; omega
theorem bulk_sum : ∀ (L : List (List Int)) (E : List (DataW H)), L.length = E.length → (∀ (i : Nat) (l : List Int) (d : DataW H), L[i]? = some l → E[i]? = some d → l.length + 1 ≤ Rows.uptoBulk d) → szL L ≤ Rows.uptoBulkAll E
  | [], [], _, _ => Nat.le_refl _
  | l :: r, d :: E, h, hp => by
    have h1 := hp 0 l d rfl rfl
    have h2 := bulk_sum r E (by simpa using h) (fun i l' d' a b => hp (i + 1) l' d' a b)
    rw [szL_cons]
    simp only [Rows.uptoBulkAll]
    omega
/-- A list of numbers weighs more than its length. -/
theorem bulk_row {n : Nat} {A : Option Addr} {len cap : Nat} {y : DataW H × List MemPlace} (h : DataW.trod enc Try.prog w base spare held n 33 [.slice A len cap] = some y) : len + 1 ≤ Rows.uptoBulk y.1 := by
  rcases DataW.trod_slice Try.underlying33 h with ⟨hc, hy⟩ | ⟨a, len', cap', elems, rest, m, _, hc, hy, _, _, _, hlen, _, _, _⟩
  · simp at hc
    rw [hy, hc.2.1]
    exact bulk_one _
  · simp at hc
    rw [hy]
    have h1 := bulk_len (elems.map (·.1))
    simp only [Rows.uptoBulk]
    rw [List.length_map, hlen] at h1
    have := hc.2.1
    omega
theorem bulk_cells {n : Nat} {A0 : Option Addr} {c0 : Nat} {l0 : List (List Int)} {x0 : DataW H × List MemPlace} (h : DataW.trod enc Try.prog w base spare held n 32 [.slice A0 l0.length c0] = some x0) (hC : Kd.C (Kd.slice 3 (Kd.int .i64)) w A0 l0.length l0) : szL l0 ≤ Rows.uptoBulk x0.1 := by
  have e33 : Try.prog.cellsOf 33 = 1 := by kernel_rfl
  rcases DataW.trod_slice Try.underlying32 h with ⟨hc, hy⟩ | ⟨a, len', cap', elems, rest, m, _, hc, hy, _, _, _, hlen, hel, _, _⟩
  · simp at hc
    rw [hc.2.1]
    simp [szL]
  · simp at hc
    obtain ⟨rfl, rfl, rfl⟩ := hc
    rw [hy]
    have h1 := bulk_sum l0 (elems.map (·.1)) (by simp [hlen]) (fun i l d hl hd => by
      obtain ⟨hi, hli⟩ := List.getElem?_eq_some_iff.1 hl
      rw [List.getElem?_map, Option.map_eq_some_iff] at hd
      obtain ⟨y, hy1, rfl⟩ := hd
      have h2 := hel i hi
      rw [hy1, Option.bind_eq_some_iff, e33] at h2
      obtain ⟨c, hcs, hy2⟩ := h2
      obtain ⟨ad, ha, hrd⟩ := hC.2.2 (by omega)
      cases ha
      obtain ⟨c', hc1, ⟨A', cp, hce, _, _⟩, hcc⟩ := hrd i l hl
      have h3 := World.cells?_some hcs
      have h4 := h3.2.2 0 (by omega)
      subst hce
      have h5 := hcc 0 _ rfl
      have hz : (Kd.slice 3 (Kd.int .i64)).sz = 1 := rfl
      rw [hz] at h5
      have hadd : (a.add (i * 1)).add 0 = a.add (i * 1 + 0) := by rw [Addr.add_add]
      rw [hadd, h5] at h4
      have hlenc : c.length = 1 := h3.2.1
      have hc2 : c = [.slice A' l.length cp] := by
        match c, hlenc with
        | [u], _ =>
          have : some (Value.slice A' l.length cp) = some u := by simpa using h4
          rw [Option.some.inj this]
      rw [hc2] at hy2
      exact bulk_row hy2)
    simp only [Rows.uptoBulk]
    omega
theorem bulk_state {A0 : Option Addr} {c0 : Nat} {l0 : List (List Int)} {A1 : Option Addr} {c1 : Nat} {l1 : List Int} {A2 : Option Addr} {c2 : Nat} {l2 : List Int} {dd : DataW H} {p : List MemPlace} (h : DataW.Trod enc Try.prog w base spare held 35 (.agg #[.slice A0 l0.length c0, .slice A1 l1.length c1, .slice A2 l2.length c2]) dd p)
    (hC : Kd.C (Kd.slice 3 (Kd.int .i64)) w A0 l0.length l0) : szL (l0 ++ [l1, l2]) ≤ Rows.uptoBulk dd := by
  obtain ⟨fuel, h⟩ := h
  obtain ⟨xs, n, _, hx, hcs, hxs, hf⟩ := DataW.trod_struct Try.underlying35 h
  have hx3 : xs.length = 3 := hxs
  have h0 := hf 0 _ rfl
  have h1 := hf 1 _ rfl
  have h2 := hf 2 _ rfl
  have e32 : Try.prog.cellsOf 32 = 1 := by kernel_rfl
  have e33 : Try.prog.cellsOf 33 = 1 := by kernel_rfl
  match xs, hx3 with
  | [x0, x1, x2], _ =>
  have hdd : dd = .agg [x0.1, x1.1, x2.1] := by have := congrArg Prod.fst hx; simpa using this
  subst hdd
  have g0 : DataW.trod enc Try.prog w base spare held n 32 [.slice A0 l0.length c0] = some x0 := by
    have : (((Value.agg #[.slice A0 l0.length c0, .slice A1 l1.length c1, .slice A2 l2.length c2]).cells.toList).drop 0).take (Try.prog.cellsOf 32) = [Value.slice A0 l0.length c0] := by rw [e32]; rfl
    rw [← this]; exact h0
  have g1 : DataW.trod enc Try.prog w base spare held n 33 [.slice A1 l1.length c1] = some x1 := by
    have : (((Value.agg #[.slice A0 l0.length c0, .slice A1 l1.length c1, .slice A2 l2.length c2]).cells.toList).drop 1).take (Try.prog.cellsOf 33) = [Value.slice A1 l1.length c1] := by rw [e33]; rfl
    rw [← this]; exact h1
  have g2 : DataW.trod enc Try.prog w base spare held n 33 [.slice A2 l2.length c2] = some x2 := by
    have : (((Value.agg #[.slice A0 l0.length c0, .slice A1 l1.length c1, .slice A2 l2.length c2]).cells.toList).drop 2).take (Try.prog.cellsOf 33) = [Value.slice A2 l2.length c2] := by rw [e33]; rfl
    rw [← this]; exact h2
  have b0 := bulk_cells g0 hC
  have b1 := bulk_row g1
  have b2 := bulk_row g2
  have hsz : szL (l0 ++ [l1, l2]) = szL l0 + (l1.length + 1) + (l2.length + 1) := by simp [szL]; omega
  rw [hsz]
  simp only [Rows.uptoBulk, Rows.uptoBulkAll]
  omega
theorem szL_len (L : List (List Int)) : L.length ≤ szL L := by
  induction L with
  | nil => simp [szL]
  | cons x r ih => rw [szL_cons, List.length_cons]; omega
end
end Go.Proofs.Ytgcdeablfoomhaa.PAll
end
