/- Rows of numbers, and rows of such rows, of a call's own: stores into them keep their form. -/
import Derived.Test.YtjphfhmkpknfaaaPart
import Derived.Laws.Rows
set_option linter.unusedVariables false
set_option linter.unusedSimpArgs false
namespace Go.Proofs.Ytjphfhmkpknfaaa.PAll
open Go.RowKit Go.Proofs.YtjphfhmkpknfaaaW.PrintWords Go.Proofs.YtjphfhmkpknfaaaW.PrintLast Go.Proofs.YtjphfhmkpknfaaaW.PrintMore

/-- A row of n numbers, whichever, in a block of numbers from lo on. -/
def IRow (W : World) (lo : Nat) (v : Value) (n : Nat) : Prop :=
  ∃ A c, v = .slice A n c ∧ (0 < n → ∃ g cur, A = some ⟨g, 0, none⟩ ∧ lo ≤ g ∧ W.heap[g]? = some (.cells cur 3 (0, 0)) ∧ n ≤ cur.size ∧ ∀ j, j < n → ∃ x, cur[j]? = some (.int .i64 x))
theorem IRow.of_R {W : World} {base : Nat} {ok : Nat → Prop} {v : Value} {l : List Int} (h : Kd.R (Kd.int .i64) 3 W base ok v l) : IRow W base v l.length := by
  obtain ⟨_, inner, ⟨hil, ho⟩, hr⟩ := h
  rcases ho with ⟨rfl, h0⟩ | ⟨g, cap, cur, rfl, hg, hc, hn, _, hs, ht⟩
  · exact ⟨none, 0, by rw [h0], fun hn => by omega⟩
  · refine ⟨some ⟨g, 0, none⟩, cap, rfl, fun h0 => ⟨g, cur, rfl, hg, hc, ?_, fun j hj => ?_⟩⟩
    · have : cur.size = cap := by rw [hs]; show cap * 1 = cap; omega
      omega
    · have h1 := hr.2 j l[j] (List.getElem?_eq_getElem hj)
      have h2 : (inner.drop (j * 1)).take 1 = [.int .i64 l[j]] := h1
      rw [Nat.mul_one] at h2
      have h3 : inner[j]? = some (.int .i64 l[j]) := by
        have := congrArg (fun z => z[0]?) h2
        simpa using this
      rw [← ht] at h3
      have h4 : l.length * (Kd.int .i64).sz = l.length := Nat.mul_one _
      rw [h4, List.getElem?_take_of_lt hj] at h3
      exact ⟨l[j], by simpa using h3⟩
theorem spot_add {a : Addr} (h : a.spot = none) (n : Nat) : (a.add n).spot = none := by unfold Addr.add; split <;> simp [h]
theorem off_add {a : Addr} (n : Nat) : (a.add n).off = a.off + n := by unfold Addr.add; split <;> simp_all
theorem cell_add {W : World} {g : Nat} {cur : Array Value} {t : TypeId} (h : W.heap[g]? = some (.cells cur t (0, 0))) (n : Nat) : W.cell? (Addr.add ⟨g, 0, none⟩ n) = cur[n]? := by
  unfold Addr.add
  split
  · rename_i hz
    rw [hz]
    simp [World.cell?, h]
  · simp [World.cell?, h]
/-- A number of such a row: where it lies. -/
theorem IRow.cell {W : World} {lo : Nat} {v : Value} {n : Nat} (h : IRow W lo v n) (j : Int) (h0 : 0 ≤ j) (hj : j < n) : ∃ ad c x, v = .slice (some ad) n c ∧ W.cell? (ad.add j.toNat) = some (.int .i64 x) ∧ W.frozen? (ad.add j.toNat) = false ∧
    lo ≤ (ad.add j.toNat).block ∧ (ad.add j.toNat).spot = none ∧ ∃ cur, W.heap[(ad.add j.toNat).block]? = some (.cells cur 3 (0, 0)) := by
  obtain ⟨A, c, rfl, hA⟩ := h
  obtain ⟨g, cur, rfl, hg, hc, hn, hx⟩ := hA (by omega)
  obtain ⟨x, hx⟩ := hx j.toNat (by omega)
  refine ⟨⟨g, 0, none⟩, c, x, rfl, (cell_add hc _).trans hx, ?_, by rw [addr_add_block]; exact hg, spot_add rfl _, cur, by rw [addr_add_block]; exact hc⟩
  unfold Addr.add
  split <;> simp [World.frozen?, hc]
theorem IRow.store {W : World} {lo : Nat} {v : Value} {n : Nat} (h : IRow W lo v n) (a : Addr) (hs : a.spot = none) (x : Int) : IRow (W.setCell a (.int .i64 x)) lo v n := by
  obtain ⟨A, c, rfl, hA⟩ := h
  refine ⟨A, c, rfl, fun h0 => ?_⟩
  obtain ⟨g, cur, rfl, hg, hc, hn, hx⟩ := hA h0
  by_cases hga : g = a.block
  · have h2 : (W.setCell a (.int .i64 x)).heap[g]? = some (.cells (cur.setIfInBounds a.off (.int .i64 x)) 3 (0, 0)) := by
      subst hga
      have h3 := heap_setCell_same W a.block a.off cur 3 (.int .i64 x) hc
      have h4 : (⟨a.block, a.off, none⟩ : Addr) = a := by rw [← hs]
      rwa [h4] at h3
    refine ⟨g, _, rfl, hg, h2, by simpa using hn, fun j hj => ?_⟩
    rw [Array.getElem?_setIfInBounds]
    split
    · rw [if_pos (by omega)]; exact ⟨x, rfl⟩
    · exact hx j hj
  · exact ⟨g, cur, rfl, hg, (heap_setCell_other W a g _ hga).trans hc, hn, hx⟩
theorem IRow.keep {W W1 : World} {lo : Nat} {v : Value} {n : Nat} (h : IRow W lo v n) (hm : ∀ (b : Nat) cur, W.heap[b]? = some (.cells cur 3 (0, 0)) → W1.heap[b]? = W.heap[b]?) : IRow W1 lo v n := by
  obtain ⟨A, c, rfl, hA⟩ := h
  refine ⟨A, c, rfl, fun h0 => ?_⟩
  obtain ⟨g, cur, rfl, hg, hc, hn, hx⟩ := hA h0
  exact ⟨g, cur, rfl, hg, (hm g cur hc).trans hc, hn, hx⟩
theorem IRow.below {W W1 : World} {lo : Nat} {v : Value} {n : Nat} (h : IRow W lo v n) (hb : Below W.heap.size W W1) : IRow W1 lo v n :=
  h.keep fun b cur hc => hb.block b (Array.getElem?_eq_some_iff.1 hc).1
/-- m rows of numbers in a block of slices from lo on. -/
def ORow (W : World) (lo : Nat) (v : Value) (m : Nat) : Prop :=
  ∃ A c, v = .slice A m c ∧ (0 < m → ∃ g cur, A = some ⟨g, 0, none⟩ ∧ lo ≤ g ∧ W.heap[g]? = some (.cells cur 23 (0, 0)) ∧ m ≤ cur.size ∧ ∀ i, i < m → ∃ u n, cur[i]? = some u ∧ IRow W lo u n ∧ n ≤ 1000000)
theorem ORow.of_R {W : World} {base : Nat} {ok : Nat → Prop} {v : Value} {l : List (List Int)} (h : Kd.R (Kd.slice 3 (Kd.int .i64)) 23 W base ok v l) (hl : ∀ x ∈ l, x.length ≤ 1000000) : ORow W base v l.length := by
  obtain ⟨_, inner, ⟨hil, ho⟩, hr⟩ := h
  rcases ho with ⟨rfl, h0⟩ | ⟨g, cap, cur, rfl, hg, hc, hn, _, hs, ht⟩
  · exact ⟨none, 0, by rw [h0], fun hn => by omega⟩
  · refine ⟨some ⟨g, 0, none⟩, cap, rfl, fun h0 => ⟨g, cur, rfl, hg, hc, ?_, fun j hj => ?_⟩⟩
    · have : cur.size = cap := by rw [hs]; show cap * 1 = cap; omega
      omega
    · obtain ⟨u, h2, hu⟩ := hr.2 j l[j] (List.getElem?_eq_getElem hj)
      have h2 : (inner.drop (j * 1)).take 1 = [u] := h2
      rw [Nat.mul_one] at h2
      have h3 : inner[j]? = some u := by
        have := congrArg (fun z => z[0]?) h2
        simpa using this
      rw [← ht] at h3
      have h4 : l.length * (Kd.slice 3 (Kd.int .i64)).sz = l.length := Nat.mul_one _
      rw [h4, List.getElem?_take_of_lt hj] at h3
      exact ⟨u, l[j].length, by simpa using h3, IRow.of_R hu, hl _ (List.getElem_mem hj)⟩
theorem ORow.cell {W : World} {lo : Nat} {v : Value} {m : Nat} (h : ORow W lo v m) (i : Int) (h0 : 0 ≤ i) (hi : i < m) : ∃ ad c u n, v = .slice (some ad) m c ∧ W.cell? (ad.add i.toNat) = some u ∧ IRow W lo u n ∧ n ≤ 1000000 := by
  obtain ⟨A, c, rfl, hA⟩ := h
  obtain ⟨g, cur, rfl, hg, hc, hn, hx⟩ := hA (by omega)
  obtain ⟨u, n, hu, hr, hl⟩ := hx i.toNat (by omega)
  exact ⟨⟨g, 0, none⟩, c, u, n, rfl, (cell_add hc _).trans hu, hr, hl⟩
theorem ORow.store {W : World} {lo : Nat} {v : Value} {m : Nat} (h : ORow W lo v m) (a : Addr) (hs : a.spot = none) (x : Int) {cur' : Array Value} (ha : W.heap[a.block]? = some (.cells cur' 3 (0, 0))) : ORow (W.setCell a (.int .i64 x)) lo v m := by
  obtain ⟨A, c, rfl, hA⟩ := h
  refine ⟨A, c, rfl, fun h0 => ?_⟩
  obtain ⟨g, cur, rfl, hg, hc, hn, hx⟩ := hA h0
  have hga : g ≠ a.block := by
    rintro rfl
    rw [hc] at ha
    injection ha with ha
    injection ha with _ h2
    exact absurd h2 (by decide)
  refine ⟨g, cur, rfl, hg, (heap_setCell_other W a g _ hga).trans hc, hn, fun i hi => ?_⟩
  obtain ⟨u, n, hu, hr, hl⟩ := hx i hi
  exact ⟨u, n, hu, hr.store a hs x, hl⟩
theorem ORow.below {W W1 : World} {lo : Nat} {v : Value} {m : Nat} (h : ORow W lo v m) (hb : Below W.heap.size W W1) : ORow W1 lo v m := by
  obtain ⟨A, c, rfl, hA⟩ := h
  refine ⟨A, c, rfl, fun h0 => ?_⟩
  obtain ⟨g, cur, rfl, hg, hc, hn, hx⟩ := hA h0
  refine ⟨g, cur, rfl, hg, (hb.block g (Array.getElem?_eq_some_iff.1 hc).1).trans hc, hn, fun i hi => ?_⟩
  obtain ⟨u, n, hu, hr, hl⟩ := hx i hi
  exact ⟨u, n, hu, hr.below hb, hl⟩
theorem BoxA.store {W : World} {B : Nat} {s0 s1 s2 : Value} (h : BoxA W B s0 s1 s2) (a : Addr) (v : Value) {cur' : Array Value} (ha : W.heap[a.block]? = some (.cells cur' 3 (0, 0))) : BoxA (W.setCell a v) B s0 s1 s2 := by
  have hga : B ≠ a.block := by
    rintro rfl
    rw [show W.heap[a.block]? = _ from h] at ha
    injection ha with ha
    injection ha with _ h2
    exact absurd h2 (by decide)
  exact (heap_setCell_other W a B _ hga).trans h
end Go.Proofs.Ytjphfhmkpknfaaa.PAll
