/- What Bennett's strategy is: plain functions on lists. -/
import Derived.Test.YtpkamififbhheaaInv
set_option linter.unusedVariables false
set_option linter.unusedSimpArgs false
namespace Go.Proofs.Ytpkamififbhheaa

theorem negRev_length (l : List Int) : (negRev l).length = l.length := by simp [negRev]
def sizeAt (m p i : Int) : Int := if i < m % p then m / p + 1 else m / p
/-- r parts more, from the part i on, the first of them from the node a on. -/
def bparts (rec : Int → Int → List Int) (m p : Int) : Nat → Int → Int → List (List Int)
  | 0, _, _ => []
  | r + 1, i, a => rec a (sizeAt m p i) :: bparts rec m p r (i + 1) (a + sizeAt m p i)
def strat (k : Int) : Nat → Int → Int → List Int
  | 0, _, _ => []
  | f + 1, a, m => if m = 1 then [a + 1] else
      (bparts (strat k f) m (if k < m then k else m) (if k < m then k else m).toNat 0 a).flatten ++
        (((bparts (strat k f) m (if k < m then k else m) (if k < m then k else m).toNat 0 a).dropLast).reverse.map negRev).flatten

theorem bparts_length (rec : Int → Int → List Int) (m p : Int) : ∀ (r : Nat) (i a : Int), (bparts rec m p r i a).length = r
  | 0, _, _ => rfl
  | r + 1, i, a => by simp [bparts, bparts_length rec m p r]
theorem sizeAt_bd {m p i : Int} (hi : 0 ≤ i) (h2 : 2 ≤ p) (hp : p ≤ m) : 1 ≤ sizeAt m p i ∧ sizeAt m p i < m := by
  unfold sizeAt
  have h0 : 0 < p := by omega
  have hm := Int.emod_add_mul_ediv m p
  have hn := Int.emod_nonneg m (show p ≠ 0 by omega)
  have hl := Int.emod_lt_of_pos m h0
  have hq1 : 1 ≤ m / p := (Int.le_ediv_iff_mul_le h0).2 (by omega)
  have hq2 : 2 * (m / p) ≤ p * (m / p) := Int.mul_le_mul_of_nonneg_right h2 (by omega)
  split <;> omega
/-- How many nodes lie ahead of the part i. -/
def offAt (m p i : Int) : Int := i * (m / p) + (if i < m % p then i else m % p)
theorem offAt_succ (m p i : Int) : offAt m p (i + 1) = offAt m p i + sizeAt m p i := by
  unfold offAt sizeAt
  rw [Int.add_mul, Int.one_mul]
  split <;> split <;> omega
theorem offAt_zero {m p : Int} (h1 : 1 ≤ p) : offAt m p 0 = 0 := by
  unfold offAt
  have := Int.emod_nonneg m (show p ≠ 0 by omega)
  split <;> omega
theorem offAt_bd {m p i : Int} (hi : 0 ≤ i) (h1 : 1 ≤ p) (hp : i ≤ p) (hm : 0 ≤ m) : 0 ≤ offAt m p i ∧ offAt m p i ≤ m := by
  unfold offAt
  have hmod := Int.emod_add_mul_ediv m p
  have hn := Int.emod_nonneg m (show p ≠ 0 by omega)
  have hq := Int.ediv_nonneg hm (show 0 ≤ p by omega)
  have h3 : i * (m / p) ≤ p * (m / p) := Int.mul_le_mul_of_nonneg_right hp hq
  have h4 : 0 ≤ i * (m / p) := Int.mul_nonneg hi hq
  split <;> omega
theorem dropLast_fin (full : List (List Int)) (q : Nat) (h : full.length = q + 1) : full.dropLast = (List.finRange q).map fun j => full[j.1]'(by have := j.2; omega) := by
  apply List.ext_getElem
  · simp [h]
  · intro i h1 h2
    simp
theorem undo_all (full : List (List Int)) (q : Nat) (h : full.length = q + 1) : (full.dropLast.reverse.map negRev).flatten = ((downs q q).map fun j => negRev (full[j.1]'(by have := j.2; omega))).flatten := by
  rw [dropLast_fin full q h]
  unfold downs
  rw [List.take_of_length_le (by simp), ← List.map_reverse, List.map_map]
  rfl
end Go.Proofs.Ytpkamififbhheaa
