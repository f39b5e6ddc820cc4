/- Plain laws: the lists of a state, what fits, the weight. -/
import Derived.Test.YtgcdeablfoomhaaPAllx5
import Derived.Test.YtgcdeablfoomhaaPAllx3
import Derived.Test.YtgcdeablfoomhaaRnk
set_option linter.unusedVariables false
set_option linter.unusedSimpArgs false
namespace Go.Proofs.Ytgcdeablfoomhaa.PAll
open Go.RowKit Go.Proofs.YtgcdeablfoomhaaW.PrintWords Go.Proofs.YtgcdeablfoomhaaW.PrintLast Go.Proofs.YtgcdeablfoomhaaW.PrintMore

theorem rd_at {l : List Int} {j : Nat} (h : j < l.length) : rd l (j : Int) = l[j] := by unfold rd; simp [h]
theorem rdL_at {l : List (List Int)} {j : Nat} (h : j < l.length) : rd_L4 l (j : Int) = l[j] := by unfold rd_L4; simp [h]
theorem cast_succ (j : Nat) : (j : Int) + 1 = ((j + 1 : Nat) : Int) := by omega
theorem lists_f (l0 : List (List Int)) (l1 l2 : List Int) (h : l0.length ≤ 5864062014634) : enumerate_lists.f l0 l1 l2 = some (l0 ++ [l1, l2]) := by
  unfold enumerate_lists.f
  simp only [Option.bind_some, List.length_nil, List.nil_append, List.length_cons]
  rw [if_pos (by omega), if_pos (by omega)]
theorem reflists_l0 (l0 : List (List Int)) (l1 l2 : List Int) (h : l0.length ≤ 5864062014634) : ∀ (m j : Nat) (acc : List (List Int)), j + m = l0.length → acc.length = j → ∃ k, backstepref12_lists.l0 k acc (j : Int) l0 l1 l2 = some (acc ++ (l0.drop j ++ [l1, l2]))
  | 0, j, acc, hj, ha => ⟨1, by
    unfold backstepref12_lists.l0
    rw [if_neg (by omega), List.drop_eq_nil_of_le (by omega)]
    simp only [Option.bind_some, List.length_cons, List.length_nil, List.nil_append]
    rw [if_pos (by omega)]⟩
  | m + 1, j, acc, hj, ha => by
    have hlt : j < l0.length := by omega
    obtain ⟨k, hk⟩ := reflists_l0 l0 l1 l2 h m (j + 1) (acc ++ [l0[j]]) (by omega) (by simp; omega)
    refine ⟨k + 1, ?_⟩
    unfold backstepref12_lists.l0
    rw [if_pos (by omega), if_pos (by omega), if_pos (by omega), rdL_at hlt, wrap64_of' (by omega) (by omega), cast_succ, hk, List.drop_eq_getElem_cons hlt, List.append_assoc]
    rfl
theorem reflists_f (l0 : List (List Int)) (l1 l2 : List Int) (h : l0.length ≤ 5864062014634) : ∃ k, backstepref12_lists.f k l0 l1 l2 = some (l0 ++ [l1, l2]) := by
  obtain ⟨k, hk⟩ := reflists_l0 l0 l1 l2 h l0.length 0 [] (by omega) rfl
  exact ⟨k, by unfold backstepref12_lists.f; simpa using hk⟩
/-- What fits. -/
def inR (x : Int) : Bool := decide (x ≤ 1099511627776) && decide (-1099511627776 ≤ x)
theorem inR_iff {x : Int} : inR x = true ↔ x ≤ 1099511627776 ∧ -1099511627776 ≤ x := by simp [inR]
/-- How many numbers, as the machine counts them. -/
def manyW (n : Int) : List (List Int) → Int
  | [] => n
  | l :: r => manyW (wrap64 (n + (l.length : Int))) r
def fitsL (L : List (List Int)) : Bool := L.all (fun l => l.all inR) && decide (manyW 0 L ≤ 65536)
theorem fits_l1 (L : List (List Int)) (n : Int) (i : Nat) (hi : i < L.length) (r : Bool) (hr : ∃ k, backstepref12_Fits.l0 k L n ((i : Int) + 1) = some r) (hll : L.length ≤ 9000000000000) (hrl : L[i].length ≤ 9223372036854775807) :
    ∀ (m j : Nat), j + m = L[i].length → ∃ k, backstepref12_Fits.l1 k L n (i : Int) (j : Int) = some (if (L[i].drop j).all inR = true then r else false)
  | 0, j, hj => by
    obtain ⟨k, hk⟩ := hr
    refine ⟨k + 1, ?_⟩
    unfold backstepref12_Fits.l1
    rw [if_pos (by omega), if_pos (by omega), rdL_at hi, if_neg (by omega), wrap64_of' (by omega) (by omega), hk, List.drop_eq_nil_of_le (by omega)]
    simp
  | m + 1, j, hj => by
    have hlt : j < L[i].length := by omega
    obtain ⟨k, hk⟩ := fits_l1 L n i hi r hr hll hrl m (j + 1) (by omega)
    refine ⟨k + 1, ?_⟩
    unfold backstepref12_Fits.l1
    rw [if_pos (by omega), if_pos (by omega), rdL_at hi, if_pos (by omega), if_pos (by omega), rd_at hlt, List.drop_eq_getElem_cons hlt, List.all_cons]
    by_cases h1 : L[i][j] > 1099511627776
    · rw [if_pos h1]
      have : inR L[i][j] = false := by simp [inR]; omega
      simp [this]
    · rw [if_neg h1]
      by_cases h2 : L[i][j] < -1099511627776
      · rw [if_pos h2]
        have : inR L[i][j] = false := by simp [inR]; omega
        simp [this]
      · rw [if_neg h2, wrap64_of' (by omega) (by omega), cast_succ, hk]
        have : inR L[i][j] = true := inR_iff.2 ⟨by omega, by omega⟩
        simp [this]
theorem fits_l0 (L : List (List Int)) (hll : L.length ≤ 9000000000000) (hrl : ∀ l ∈ L, l.length ≤ 9223372036854775807) : ∀ (m i : Nat) (n : Int), i + m = L.length → ∃ k, backstepref12_Fits.l0 k L n (i : Int) = some ((L.drop i).all (fun l => l.all inR) && decide (manyW n (L.drop i) ≤ 65536))
  | 0, i, n, hi => ⟨1, by
    unfold backstepref12_Fits.l0
    rw [if_neg (by omega), List.drop_eq_nil_of_le (by omega)]
    rfl⟩
  | m + 1, i, n, hi => by
    have hlt : i < L.length := by omega
    obtain ⟨k0, hk0⟩ := fits_l0 L hll hrl m (i + 1) (wrap64 (n + (L[i].length : Int))) (by omega)
    obtain ⟨k, hk⟩ := fits_l1 L (wrap64 (n + (L[i].length : Int))) i hlt _ ⟨k0, by rw [cast_succ]; exact hk0⟩ hll (hrl _ (List.getElem_mem hlt)) L[i].length 0 (by omega)
    refine ⟨k + 1, ?_⟩
    unfold backstepref12_Fits.l0
    rw [if_pos (by omega), if_pos (by omega), rdL_at hlt, show (0 : Int) = ((0 : Nat) : Int) from rfl, hk, List.drop_eq_getElem_cons hlt, List.all_cons, manyW, List.drop_zero]
    cases L[i].all inR <;> simp
theorem fits_f (l0 : List (List Int)) (l1 l2 : List Int) (h : l0.length ≤ 5864062014634) (hrl : ∀ l ∈ l0 ++ [l1, l2], l.length ≤ 9223372036854775807) : ∃ k, backstepref12_Fits.f k l0 l1 l2 = some (fitsL (l0 ++ [l1, l2])) := by
  obtain ⟨k1, h1⟩ := reflists_f l0 l1 l2 h
  obtain ⟨k2, h2⟩ := fits_l0 (l0 ++ [l1, l2]) (by simp; omega) hrl (l0 ++ [l1, l2]).length 0 0 (by omega)
  have m1 : ∀ d, backstepref12_lists.f (k1 + d) l0 l1 l2 = some (l0 ++ [l1, l2]) := fun d => by
    induction d with
    | zero => exact h1
    | succ d ih => exact backstepref12_lists.mono _ _ _ _ _ ih
  have m2 : ∀ d, backstepref12_Fits.l0 (k2 + d) (l0 ++ [l1, l2]) 0 0 = some (fitsL (l0 ++ [l1, l2])) := fun d => by
    induction d with
    | zero => exact h2
    | succ d ih => exact (backstepref12_Fits.mono_l _).1 _ _ _ _ ih
  refine ⟨k1 + k2, ?_⟩
  unfold backstepref12_Fits.f
  rw [m1 k2]
  simp only [Option.bind_some]
  rw [Nat.add_comm]
  exact m2 k1
/-- The weight, as the machine reckons it. -/
def wlW (w : Int) : List Int → Int
  | [] => w
  | x :: r => wlW (wrap64 (w + (rankO x + 1))) r
def wtW (w : Int) : List (List Int) → Int
  | [] => w
  | l :: r => wtW (wlW w l) r
theorem wrap_in (a b : Int) : wrap64 (a + wrap64 b) = wrap64 (a + b) := by unfold wrap64; omega
theorem wrap_in2 (a b c : Int) : wrap64 (wrap64 (a + b) + c) = wrap64 (a + (b + c)) := by unfold wrap64; omega
theorem weight_l1 (L : List (List Int)) (n i : Int) (row : List Int) (r : Int) (R : Int → Int) (hr : ∀ w, ∃ k, enumerate_Weight.l0 k w L n (wrap64 (i + 1)) = some (R w)) (hin : row.all inR = true) (hrl : row.length ≤ 9223372036854775807) :
    ∀ (m j : Nat) (w : Int), j + m = row.length → ∃ k, enumerate_Weight.l1 k w L n i row (row.length : Int) (j : Int) = some (R (wlW w (row.drop j)))
  | 0, j, w, hj => by
    obtain ⟨k, hk⟩ := hr w
    refine ⟨k + 1, ?_⟩
    unfold enumerate_Weight.l1
    rw [if_neg (by omega), hk, List.drop_eq_nil_of_le (by omega)]
    rfl
  | m + 1, j, w, hj => by
    have hlt : j < row.length := by omega
    obtain ⟨k, hk⟩ := weight_l1 L n i row r R hr hin hrl m (j + 1) (wrap64 (w + (rankO row[j] + 1))) (by omega)
    have hx := inR_iff.1 (List.all_eq_true.1 hin _ (List.getElem_mem hlt))
    refine ⟨k + 1, ?_⟩
    unfold enumerate_Weight.l1
    rw [if_pos (by omega), if_pos (by omega), if_pos (by omega), rd_at hlt, rank_f hx.2 hx.1]
    simp only [Option.bind_some]
    rw [wrap_in, wrap64_of' (n := (j : Int) + 1) (by omega) (by omega), cast_succ, hk, List.drop_eq_getElem_cons hlt, wlW]
theorem weight_l0 (L : List (List Int)) (hin : L.all (fun l => l.all inR) = true) (hll : L.length ≤ 9000000000000) (hrl : ∀ l ∈ L, l.length ≤ 9223372036854775807) : ∀ (m i : Nat) (w : Int), i + m = L.length → ∃ k, enumerate_Weight.l0 k w L (L.length : Int) (i : Int) = some (wtW w (L.drop i))
  | 0, i, w, hi => ⟨1, by
    unfold enumerate_Weight.l0
    rw [if_neg (by omega), List.drop_eq_nil_of_le (by omega)]
    rfl⟩
  | m + 1, i, w, hi => by
    have hlt : i < L.length := by omega
    have hm := List.getElem_mem hlt
    obtain ⟨k, hk⟩ := weight_l1 L (L.length : Int) (i : Int) L[i] 0 (fun w => wtW w (L.drop (i + 1))) (fun w => by
      obtain ⟨k0, hk0⟩ := weight_l0 L hin hll hrl m (i + 1) w (by omega)
      exact ⟨k0, by rw [wrap64_of' (by omega) (by omega), cast_succ]; exact hk0⟩) (List.all_eq_true.1 hin _ hm) (hrl _ hm) L[i].length 0 w (by omega)
    refine ⟨k + 1, ?_⟩
    unfold enumerate_Weight.l0
    rw [if_pos (by omega), if_pos (by omega), if_pos (by omega), rdL_at hlt, show (0 : Int) = ((0 : Nat) : Int) from rfl, hk, List.drop_eq_getElem_cons hlt, List.drop_zero, wtW]
theorem weight_f (l0 : List (List Int)) (l1 l2 : List Int) (h : l0.length ≤ 5864062014634) (hin : (l0 ++ [l1, l2]).all (fun l => l.all inR) = true) (hrl : ∀ l ∈ l0 ++ [l1, l2], l.length ≤ 9223372036854775807) : ∃ k, enumerate_Weight.f k l0 l1 l2 = some (wtW 0 (l0 ++ [l1, l2])) := by
  obtain ⟨k2, h2⟩ := weight_l0 (l0 ++ [l1, l2]) hin (by simp; omega) hrl (l0 ++ [l1, l2]).length 0 0 (by omega)
  refine ⟨k2, ?_⟩
  unfold enumerate_Weight.f
  rw [lists_f l0 l1 l2 h]
  exact h2
theorem refweight_l1 (L : List (List Int)) (i : Nat) (hi : i < L.length) (R : Int → Int) (hr : ∀ w, ∃ k, backstepref12_Weight.l0 k L w (wrap64 ((i : Int) + 1)) = some (R w)) (hin : L[i].all inR = true) (hrl : L[i].length ≤ 9223372036854775807) :
    ∀ (m j : Nat) (w : Int), j + m = L[i].length → ∃ k, backstepref12_Weight.l1 k L w (i : Int) (j : Int) = some (R (wlW w (L[i].drop j)))
  | 0, j, w, hj => by
    obtain ⟨k, hk⟩ := hr w
    refine ⟨k + 1, ?_⟩
    unfold backstepref12_Weight.l1
    rw [if_pos (by omega), if_pos (by omega), rdL_at hi, if_neg (by omega), hk, List.drop_eq_nil_of_le (by omega)]
    rfl
  | m + 1, j, w, hj => by
    have hlt : j < L[i].length := by omega
    obtain ⟨k, hk⟩ := refweight_l1 L i hi R hr hin hrl m (j + 1) (wrap64 (w + (rankO L[i][j] + 1))) (by omega)
    have hx := inR_iff.1 (List.all_eq_true.1 hin _ (List.getElem_mem hlt))
    refine ⟨k + 1, ?_⟩
    unfold backstepref12_Weight.l1
    rw [if_pos (by omega), if_pos (by omega), rdL_at hi, if_pos (by omega), if_pos (by omega), rd_at hlt, refrank_f hx.2 hx.1]
    simp only [Option.bind_some]
    rw [wrap_in2, wrap64_of' (n := (j : Int) + 1) (by omega) (by omega), cast_succ, hk, List.drop_eq_getElem_cons hlt, wlW]
theorem refweight_l0 (L : List (List Int)) (hin : L.all (fun l => l.all inR) = true) (hll : L.length ≤ 9000000000000) (hrl : ∀ l ∈ L, l.length ≤ 9223372036854775807) : ∀ (m i : Nat) (w : Int), i + m = L.length → ∃ k, backstepref12_Weight.l0 k L w (i : Int) = some (wtW w (L.drop i))
  | 0, i, w, hi => ⟨1, by
    unfold backstepref12_Weight.l0
    rw [if_neg (by omega), List.drop_eq_nil_of_le (by omega)]
    rfl⟩
  | m + 1, i, w, hi => by
    have hlt : i < L.length := by omega
    have hm := List.getElem_mem hlt
    obtain ⟨k, hk⟩ := refweight_l1 L i hlt (fun w => wtW w (L.drop (i + 1))) (fun w => by
      obtain ⟨k0, hk0⟩ := refweight_l0 L hin hll hrl m (i + 1) w (by omega)
      exact ⟨k0, by rw [wrap64_of' (by omega) (by omega), cast_succ]; exact hk0⟩) (List.all_eq_true.1 hin _ hm) (hrl _ hm) L[i].length 0 w (by omega)
    refine ⟨k + 1, ?_⟩
    unfold backstepref12_Weight.l0
    rw [if_pos (by omega), show (0 : Int) = ((0 : Nat) : Int) from rfl, hk, List.drop_eq_getElem_cons hlt, List.drop_zero, wtW]
theorem refweight_f (l0 : List (List Int)) (l1 l2 : List Int) (h : l0.length ≤ 5864062014634) (hin : (l0 ++ [l1, l2]).all (fun l => l.all inR) = true) (hrl : ∀ l ∈ l0 ++ [l1, l2], l.length ≤ 9223372036854775807) : ∃ k, backstepref12_Weight.f k l0 l1 l2 = some (wtW 0 (l0 ++ [l1, l2])) := by
  obtain ⟨k1, h1⟩ := reflists_f l0 l1 l2 h
  obtain ⟨k2, h2⟩ := refweight_l0 (l0 ++ [l1, l2]) hin (by simp; omega) hrl (l0 ++ [l1, l2]).length 0 0 (by omega)
  have m1 : ∀ d, backstepref12_lists.f (k1 + d) l0 l1 l2 = some (l0 ++ [l1, l2]) := fun d => by
    induction d with
    | zero => exact h1
    | succ d ih => exact backstepref12_lists.mono _ _ _ _ _ ih
  have m2 : ∀ d, backstepref12_Weight.l0 (k2 + d) (l0 ++ [l1, l2]) 0 0 = some (wtW 0 (l0 ++ [l1, l2])) := fun d => by
    induction d with
    | zero => exact h2
    | succ d ih => exact (backstepref12_Weight.mono_l _).1 _ _ _ _ ih
  refine ⟨k1 + k2, ?_⟩
  unfold backstepref12_Weight.f
  rw [m1 k2]
  simp only [Option.bind_some]
  rw [Nat.add_comm]
  exact m2 k1
end Go.Proofs.Ytgcdeablfoomhaa.PAll
