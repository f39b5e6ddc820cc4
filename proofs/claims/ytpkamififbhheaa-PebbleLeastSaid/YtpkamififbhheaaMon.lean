/- 'With enough rounds': more rounds tell the same; the pieces are put together. -/
import Derived.Test.YtpkamififbhheaaPAllx2
import Derived.Test.YtpkamififbhheaaBenC
import Derived.Test.YtpkamififbhheaaPlain
namespace Go.Proofs.Ytpkamififbhheaa.Pure
open Go.RowKit Go.Proofs.Ytpkamififbhheaa.PAll Go.Proofs.YtpkamififbhheaaW.PrintWords Go.Proofs.YtpkamififbhheaaW.PrintLast

theorem upto {α : Type} {g : Nat → Option α} (hm : ∀ k, LeO (g k) (g (k + 1))) {k k' : Nat} {r : α} (h : g k = some r) (hk : k ≤ k') : g k' = some r := by
  obtain ⟨d, rfl⟩ := Nat.le.dest hk
  clear hk
  induction d with
  | zero => exact h
  | succ d ih => exact hm (k + d) r ih

/-! ### the reverse walk of a list, negated -/
theorem rd_of {l : List Int} {i : Nat} (h : i < l.length) : rd l (i : Int) = l[i] := by
  unfold rd; simp [h]
theorem ref_inverse_l0 (l : List Int) (hl : l.length ≤ 8589934592) : ∀ (i : Nat) (out : List Int), i ≤ l.length → out.length + i ≤ l.length →
    backstepref44_Inverse.l0 (i + 1) l out ((i : Int) - 1) = some (out ++ negRev (l.take i))
  | 0, out, _, _ => by simp [backstepref44_Inverse.l0, negRev]
  | i + 1, out, hi, ho => by
    have ih := ref_inverse_l0 l hl i (out ++ [wrap64 (-(rd l (i : Int)))]) (by omega) (by simp; omega)
    have hw : wrap64 ((i : Int) - 1) = (i : Int) - 1 := wrap64_of (by omega) (by omega)
    have he : (((i + 1 : Nat) : Int) - 1) = (i : Int) := by omega
    have h3 : out.length < 17592186044416 := by omega
    have e1 : negRev (l.take (i + 1)) = wrap64 (-(rd l (i : Int))) :: negRev (l.take i) := by
      unfold negRev
      rw [List.take_add_one, List.map_append, List.reverse_append, rd_of (by omega)]
      simp [show i < l.length by omega]
    rw [he]
    unfold backstepref44_Inverse.l0
    rw [if_pos (by omega), if_pos (by omega), if_pos (by omega), if_pos h3, hw, ih, e1]
    simp
theorem ref_inverse (l : List Int) (hl : l.length ≤ 8589934592) : backstepref44_Inverse.f (l.length + 1) l = some (negRev l) := by
  unfold backstepref44_Inverse.f
  have := ref_inverse_l0 l hl l.length [] (by omega) (by simp)
  rw [wrap64_of (by omega) (by omega), this]; simp

/-! ### two lists compared -/
theorem ints_l0 (l : List Int) (hl : l.length ≤ 1099511627776) : ∀ (r i : Nat), r + i = l.length → backsteplaw44_ints.l0 (r + 1) l l (l.length : Int) (i : Int) = some true
  | 0, i, h => by simp [backsteplaw44_ints.l0]; omega
  | r + 1, i, h => by
    have ih := ints_l0 l hl r (i + 1) (by omega)
    have hw : wrap64 ((i : Int) + 1) = ((i + 1 : Nat) : Int) := by rw [wrap64_of (by omega) (by omega)]; omega
    unfold backsteplaw44_ints.l0
    rw [if_pos (by omega), if_pos (by omega), if_pos (by omega), if_pos (by omega), if_pos rfl, hw, ih]
theorem ints_same (l : List Int) (hl : l.length ≤ 1099511627776) : backsteplaw44_ints.f (l.length + 1) l l = some true := by
  unfold backsteplaw44_ints.f
  rw [if_pos rfl]
  exact ints_l0 l hl l.length 0 (by omega)

/-! ### how long a strategy is -/
theorem bparts_len (rec : Int → Int → List Int) (m p : Int) (C : Nat) (hp : 1 ≤ p) (hpm : p ≤ m) (hrec : ∀ a s, 1 ≤ s → s ≤ m / p + 1 → (m % p = 0 → s ≤ m / p) → (rec a s).length ≤ s.toNat * C) :
    ∀ (r : Nat) (i a : Int), 0 ≤ i → i + r ≤ p → ((bparts rec m p r i a).flatten.length : Int) ≤ (offAt m p (i + r) - offAt m p i) * C
  | 0, i, a, _, _ => by simp [bparts]
  | r + 1, i, a, hi, hr => by
    have ih := bparts_len rec m p C hp hpm hrec r (i + 1) (a + sizeAt m p i) (by omega) (by omega)
    have ho := offAt_succ m p i
    have hn := Int.emod_nonneg m (show p ≠ 0 by omega)
    have hq1 : 1 ≤ m / p := (Int.le_ediv_iff_mul_le (by omega)).2 (by omega)
    have hs1 : 1 ≤ sizeAt m p i := by unfold sizeAt; split <;> omega
    have h1 := hrec a (sizeAt m p i) hs1 (by unfold sizeAt; split <;> omega) (fun h0 => by unfold sizeAt; rw [if_neg (by omega)]; omega)
    have h2 : ((rec a (sizeAt m p i)).length : Int) ≤ sizeAt m p i * C := by
      have h3 : (((rec a (sizeAt m p i)).length : Nat) : Int) ≤ ((sizeAt m p i).toNat * C : Nat) := by exact_mod_cast h1
      rw [Int.natCast_mul, Int.toNat_of_nonneg (by omega)] at h3
      exact h3
    simp only [bparts, List.flatten_cons, List.length_append]
    have e : i + ((r + 1 : Nat) : Int) = i + 1 + r := by omega
    rw [e]
    have e2 : (offAt m p (i + 1 + r) - offAt m p i) * (C : Int) = (offAt m p (i + 1 + r) - offAt m p (i + 1)) * C + sizeAt m p i * C := by
      rw [← Int.add_mul]; congr 1; omega
    rw [e2]; push_cast; omega
theorem undo_len : ∀ L : List (List Int), ((L.reverse).map negRev).flatten.length = L.flatten.length
  | [] => rfl
  | x :: L => by
    have := undo_len L
    simp only [List.reverse_cons, List.map_append, List.flatten_append, List.length_append, List.flatten_cons, List.map_cons, List.map_nil, List.flatten_nil, this, negRev_length]
    simp; omega
theorem dropLast_len : ∀ L : List (List Int), L.dropLast.flatten.length ≤ L.flatten.length
  | [] => by simp
  | [x] => by simp
  | x :: y :: L => by
    have := dropLast_len (y :: L)
    simp only [List.dropLast_cons_cons, List.flatten_cons, List.length_append] at this ⊢
    omega
theorem offAt_end {m p : Int} (hp : 1 ≤ p) : offAt m p p = m := by
  unfold offAt
  have hl := Int.emod_lt_of_pos m (show 0 < p by omega)
  have := Int.emod_add_mul_ediv m p
  rw [if_neg (by omega)]; omega
theorem strat_len (k : Int) (hk : 2 ≤ k) : ∀ (f d : Nat) (a m : Int), 1 ≤ m → m ≤ 2 ^ d → (strat k f a m).length ≤ m.toNat * 2 ^ d
  | 0, d, a, m, _, _ => by simp [strat]
  | f + 1, d, a, m, h1, hd => by
    unfold strat
    by_cases hm1 : m = 1
    · rw [if_pos hm1, hm1]; simp; exact Nat.one_le_two_pow
    · rw [if_neg hm1]
      obtain ⟨p, hp⟩ : ∃ p, p = (if k < m then k else m) := ⟨_, rfl⟩
      rw [← hp]
      have hp2 : 2 ≤ p := by rw [hp]; split <;> omega
      have hpm : p ≤ m := by rw [hp]; split <;> omega
      match d, hd with
      | 0, hd => simp at hd; omega
      | d + 1, hd =>
        have hd : m ≤ 2 * 2 ^ d := by rw [Int.pow_succ] at hd; omega
        have hD : (2 : Int) ^ d = ((2 ^ d : Nat) : Int) := by simp
        rw [hD] at hd
        have hmod := Int.emod_add_mul_ediv m p
        have hn := Int.emod_nonneg m (show p ≠ 0 by omega)
        have hq0 : 1 ≤ m / p := (Int.le_ediv_iff_mul_le (by omega)).2 (by omega)
        have hq : 2 * (m / p) ≤ p * (m / p) := Int.mul_le_mul_of_nonneg_right hp2 (by omega)
        have hb := bparts_len (strat k f) m p (2 ^ d) (by omega) hpm (fun a' s hs hs1 hs2 => strat_len k hk f d a' s hs (by
            rw [hD]
            by_cases h0 : m % p = 0
            · have := hs2 h0; omega
            · omega)) p.toNat 0 a (by omega) (by omega)
        rw [Int.toNat_of_nonneg (by omega)] at hb
        have e0 : (0 : Int) + p = p := by omega
        rw [e0, offAt_end (by omega), offAt_zero (by omega)] at hb
        have hu := undo_len (bparts (strat k f) m p p.toNat 0 a).dropLast
        have hdl := dropLast_len (bparts (strat k f) m p p.toNat 0 a)
        rw [List.length_append, hu]
        have hb2 : (bparts (strat k f) m p p.toNat 0 a).flatten.length ≤ m.toNat * 2 ^ d := by
          have : (((bparts (strat k f) m p p.toNat 0 a).flatten.length : Nat) : Int) ≤ ((m.toNat * 2 ^ d : Nat) : Int) := by
            rw [Int.natCast_mul, Int.toNat_of_nonneg (by omega)]; simpa using hb
          exact_mod_cast this
        rw [Nat.pow_succ, ← Nat.mul_assoc]; omega
theorem strat_short (k : Int) (hk : 2 ≤ k) (f : Nat) (a m : Int) (h1 : 1 ≤ m) (h2 : m ≤ 512) : (strat k f a m).length ≤ 262144 := by
  have := strat_len k hk f 9 a m h1 (by simpa using h2)
  have h3 : m.toNat ≤ 512 := by omega
  omega
end Go.Proofs.Ytpkamififbhheaa.Pure
