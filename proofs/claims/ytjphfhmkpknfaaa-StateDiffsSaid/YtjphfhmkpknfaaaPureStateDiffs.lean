/- StateDiffs' plain law. -/
import Derived.Test.YtjphfhmkpknfaaaPDif3
import Derived.Test.YtjphfhmkpknfaaaPlain3
set_option linter.unusedVariables false
set_option linter.unusedSimpArgs false
namespace Go.Proofs.Ytjphfhmkpknfaaa.Pure
open Go.RowKit Go.Proofs.Ytjphfhmkpknfaaa.PAll Go.Proofs.YtjphfhmkpknfaaaW.PrintWords Go.Proofs.YtjphfhmkpknfaaaW.PrintLast Go.Proofs.YtjphfhmkpknfaaaW.PrintMore

def to34 (c : S61) : S34 := ⟨c.f0, c.f1, c.f2, c.f3⟩
theorem rdT61_of {l : List S61} {i : Nat} (h : i < l.length) : rd_T61 l (i : Int) = l[i] := by
  unfold rd_T61; simp [h]
theorem plain_l0 (l : List S61) (hl : l.length ≤ 1000000) : ∀ (r i : Nat) (acc : List S34), r + i = l.length → acc.length = i → backsteplaw10_plain.l0 (r + 1) l acc (i : Int) = some (acc ++ (l.drop i).map to34)
  | 0, i, acc, h, ha => by
    unfold backsteplaw10_plain.l0
    rw [if_neg (by omega), List.drop_eq_nil_of_le (by omega)]; simp
  | r + 1, i, acc, h, ha => by
    have hi : i < l.length := by omega
    have ed : l.drop i = l[i] :: l.drop (i + 1) := List.drop_eq_getElem_cons hi
    have ih := plain_l0 l hl r (i + 1) (acc ++ [to34 l[i]]) (by omega) (by simp; omega)
    rw [ed]
    unfold backsteplaw10_plain.l0
    rw [if_pos (by omega), if_pos (by omega), if_pos (by omega), rdT61_of hi, next_i (by omega)]
    have e : (⟨l[i].f0, l[i].f1, l[i].f2, l[i].f3⟩ : S34) = to34 l[i] := rfl
    rw [e, ih, List.append_assoc]; rfl
theorem plain_f (l : List S61) (hl : l.length ≤ 1000000) : backsteplaw10_plain.f (l.length + 1) l = some (l.map to34) := by
  unfold backsteplaw10_plain.f
  have := plain_l0 l hl l.length 0 [] (by omega) rfl
  simpa using this
theorem view_at (l : List Int) (cell : Int) (hc : cell ≠ -1) (i : Nat) : PAll.viewAt l cell (i : Int) = atR l (i : Int) := by
  unfold PAll.viewAt atR
  simp only [if_neg hc]
  rw [if_neg (by omega)]
  by_cases h : (i : Int) < (l.length : Int)
  · rw [if_pos h, if_neg (by omega)]
  · rw [if_neg h, if_pos (by omega)]
theorem view_rev (l : List Int) (i : Nat) : PAll.viewAt l (-1) (i : Int) = atR l.reverse (i : Int) := by
  unfold PAll.viewAt atR
  simp only [if_true, List.length_reverse]
  by_cases h : i < l.length
  · have e : (l.length : Int) - 1 - (i : Int) = ((l.length - 1 - i : Nat) : Int) := by omega
    rw [if_pos (show (i : Int) < (l.length : Int) by omega), e, if_neg (by omega), if_neg (by omega), rd_of (by omega), rd_of (by simpa using h), List.getElem_reverse]
  · rw [if_neg (show ¬ (i : Int) < (l.length : Int) by omega), if_pos (by omega)]
theorem each_map {cell : Int} {x y x' y' : List Int} (hx : x'.length = x.length) (hy : y'.length = y.length) (vx : ∀ i : Nat, PAll.viewAt x cell (i : Int) = atR x' (i : Int)) (vy : ∀ i : Nat, PAll.viewAt y cell (i : Int) = atR y' (i : Int)) :
    (eachF cell x y).map to34 = reachF cell x' y' := by
  unfold eachF reachF diffUpto rupto
  rw [List.map_append, List.map_flatMap, hx, hy]
  congr 1
  · unfold diffLen rlen
    rw [hx, hy]
    split <;> rfl
  · congr 1
    funext i
    unfold diffOne rone
    rw [vx i, vy i]
    split <;> rfl
theorem flatMap_congr' {α β : Type} {f g : α → List β} : ∀ {l : List α}, (∀ x ∈ l, f x = g x) → l.flatMap f = l.flatMap g
  | [], _ => rfl
  | x :: l, h => by rw [List.flatMap_cons, List.flatMap_cons, h x List.mem_cons_self, flatMap_congr' (fun y hy => h y (List.mem_cons_of_mem _ hy))]
theorem diff_same (a : List (List Int)) (i o : List Int) (b : List (List Int)) (i' o' : List Int) : (diffAll a i o b i' o').map to34 = refDiffAll a i o b i' o' := by
  unfold diffAll refDiffAll
  by_cases h : (a.length : Int) = (b.length : Int)
  · rw [if_pos h, if_pos h]
    unfold rcells
    rw [List.range_succ, List.range_succ, List.flatMap_append, List.flatMap_append, List.map_append, List.map_append]
    have e1 : cellOf a.length a.length = -1 := by unfold cellOf; rw [if_pos (by omega)]; omega
    have e2 : cellOf a.length (a.length + 1) = -2 := by unfold cellOf; rw [if_pos (by omega)]; omega
    simp only [List.flatMap_cons, List.flatMap_nil, List.append_nil, e1, e2]
    have p1 : ∀ (c : List (List Int)) (j q : List Int), partF c j q (-1) = j.reverse := by intro c j q; unfold partF; rw [if_neg (by decide), if_neg (by decide)]
    have p2 : ∀ (c : List (List Int)) (j q : List Int), partF c j q (-2) = q := by intro c j q; unfold partF; rw [if_neg (by decide), if_pos rfl]
    rw [p1, p1, p2, p2, ← each_map (x := i) (y := i') (x' := i.reverse) (y' := i'.reverse) (by simp) (by simp) (view_rev i) (view_rev i'), ← each_map (x := o) (y := o') (x' := o) (y' := o') rfl rfl (view_at o (-2) (by decide)) (view_at o' (-2) (by decide))]
    congr 2
    unfold diffCells
    rw [List.map_flatMap]
    apply flatMap_congr'
    intro k hk
    have hk' : k < a.length := List.mem_range.1 hk
    have e3 : cellOf a.length k = (k : Int) := by unfold cellOf; rw [if_neg (by omega)]
    have p3 : ∀ (c : List (List Int)) (j q : List Int), partF c j q (k : Int) = PAll.rowAt c k := by intro c j q; unfold partF; rw [if_pos (by omega)]
    rw [e3, p3, p3]
    exact each_map rfl rfl (view_at _ _ (by omega)) (view_at _ _ (by omega))
  · rw [if_neg h, if_neg h]; rfl
theorem rdT34_of {l : List S34} {i : Nat} (h : i < l.length) : rd_T34 l (i : Int) = l[i] := by
  unfold rd_T34; simp [h]
theorem diffs_l0 (l : List S34) (hl : l.length ≤ 1000000) : ∀ (r i : Nat), r + i = l.length → backsteplaw10_StateDiffs.l0 (r + 1) l l (i : Int) = some true
  | 0, i, h => by
    unfold backsteplaw10_StateDiffs.l0
    rw [if_neg (by omega)]
  | r + 1, i, h => by
    have hi : i < l.length := by omega
    have ih := diffs_l0 l hl r (i + 1) (by omega)
    unfold backsteplaw10_StateDiffs.l0
    rw [if_pos (by omega), if_pos (by omega), if_pos (by omega), if_neg (by simp), next_i (by omega), ih]
theorem diffCells_len' {xs ys : List (List Int)} (hx : ∀ r ∈ xs, r.length ≤ 5000) (hy : ∀ r ∈ ys, r.length ≤ 5000) (n : Nat) (hn : n ≤ 40) : (diffCells xs ys n).length ≤ 210000 := by
  have := diffCells_len hx hy n
  omega
theorem StateDiffs (a : List (List Int)) (i o : List Int) (b : List (List Int)) (i' o' : List Int) : ∃ k, backsteplaw10_StateDiffs.f k a i o b i' o' = some true := by
  obtain ⟨K1, hK1⟩ := small_f a i o
  obtain ⟨K2, hK2⟩ := small_f b i' o'
  obtain ⟨K, hK⟩ : ∃ K, K = K1 + K2 + 1000000 := ⟨_, rfl⟩
  have jt : backsteplaw10_StateDiffs.j0 (K + 1) true a i o b i' o' = some true := by rw [backsteplaw10_StateDiffs.j0, if_pos rfl]
  have jf : smallP a i o → smallP b i' o' → backsteplaw10_StateDiffs.j0 (K + 1) false a i o b i' o' = some true := by
    intro ha hb
    obtain ⟨ha1, ha2, ha3, ha4⟩ := ha
    obtain ⟨hb1, hb2, hb3, hb4⟩ := hb
    have r1 : rowsIn a i o := ⟨by omega, fun x hx => by have := ha4 x hx; omega, by omega, by omega⟩
    have r2 : rowsIn b i' o' := ⟨by omega, fun x hx => by have := hb4 x hx; omega, by omega, by omega⟩
    have q1 : state_Diff.f a i o b i' o' = some (diffAll a i o b i' o') := by unfold state_Diff.f; rw [if_pos ⟨r1, r2⟩]
    have q2 : backstepref10_Diff.f a i o b i' o' = some (refDiffAll a i o b i' o') := by unfold backstepref10_Diff.f; rw [if_pos ⟨r1, r2⟩]
    have hlen : (diffAll a i o b i' o').length ≤ 250000 := by
      unfold diffAll
      split
      · have h1 := diffCells_len' r1.2.1 r2.2.1 a.length ha1
        have h2 := eachF_len (cell := -1) r1.2.2.1 r2.2.2.1
        have h3 := eachF_len (cell := -2) r1.2.2.2 r2.2.2.2
        rw [List.length_append, List.length_append]; omega
      · simp
    have q3 := upto (fun k => backsteplaw10_plain.mono (diffAll a i o b i' o') k) (plain_f (diffAll a i o b i' o') (by omega)) (show (diffAll a i o b i' o').length + 1 ≤ K by omega)
    have hm : (refDiffAll a i o b i' o').length ≤ 250000 := by rw [← diff_same, List.length_map]; exact hlen
    have q4 := diffs_l0 (refDiffAll a i o b i' o') (by omega) (refDiffAll a i o b i' o').length 0 (by omega)
    have q5 := upto (fun k => (backsteplaw10_StateDiffs.mono_l k).2 (refDiffAll a i o b i' o') (refDiffAll a i o b i' o') 0) q4 (show (refDiffAll a i o b i' o').length + 1 ≤ K by omega)
    rw [backsteplaw10_StateDiffs.j0, if_neg (by simp), q1, Option.bind_some, q3, Option.bind_some, q2, Option.bind_some, diff_same, if_pos rfl, q5]
  refine ⟨K + 1, ?_⟩
  have ha := upto (fun k => backsteplaw10_awake.mono k) awake_ok (show 300 ≤ K + 1 by omega)
  have s1 := upto (fun k => backsteplaw10_small.mono a i o k) hK1 (show K1 ≤ K + 1 by omega)
  have s2 := upto (fun k => backsteplaw10_small.mono b i' o' k) hK2 (show K2 ≤ K + 1 by omega)
  unfold backsteplaw10_StateDiffs.f
  rw [ha, Option.bind_some, if_pos rfl, s1, Option.bind_some]
  by_cases c1 : smallP a i o
  · rw [if_pos c1, if_neg (by omega), s2, Option.bind_some]
    by_cases c2 : smallP b i' o'
    · rw [if_pos c2]
      exact jf c1 c2
    · rw [if_neg c2]; exact jt
  · rw [if_neg c1, if_pos rfl]; exact jt
end Go.Proofs.Ytjphfhmkpknfaaa.Pure
