/- A legal and complete sequence is at least as long as the table's distance says. -/
import Derived.Test.YtpkamififbhheaaDist0
set_option linter.unusedVariables false
set_option linter.unusedSimpArgs false
namespace Go.Proofs.Ytpkamififbhheaa.Pure
open Go.RowKit Go.Proofs.Ytpkamififbhheaa.PAll Go.Proofs.YtpkamififbhheaaW.PrintWords Go.Proofs.YtpkamififbhheaaW.PrintLast Go.Proofs.YtpkamififbhheaaW.PrintMore

/-- The number c stands for the configuration on. -/
structure Stands (n : Nat) (on : Int → Bool) (c : Nat) : Prop where
  lt : c < 2 ^ n
  bit : ∀ j : Nat, j < n → on ((j : Int) + 1) = c.testBit j
  zero : on 0 = true
theorem fair_goal {n p : Nat} {D : List Nat} (h : fair n p D = true) : D.getD (2 ^ (n - 1)) 1 = 0 := by
  unfold fair at h
  simp only [Bool.and_eq_true, beq_iff_eq] at h
  exact h.1
theorem fair_move {n p : Nat} {D : List Nat} (h : fair n p D = true) {c m : Nat} (hc : c < 2 ^ n) (hm : m < n) (ha : m = 0 ∨ c.testBit (m - 1) = true) (h1 : pop c ≤ p) (h2 : pop (c ^^^ 2 ^ m) ≤ p) :
    D.getD c 0 ≤ D.getD (c ^^^ 2 ^ m) 0 + 1 := by
  unfold fair at h
  simp only [Bool.and_eq_true, List.all_eq_true, List.mem_range] at h
  have h3 := h.2 c hc m hm
  simp only [Bool.or_eq_true, Bool.not_eq_true', Bool.and_eq_false_iff, decide_eq_true_eq, decide_eq_false_iff_not, Bool.or_eq_false_iff, beq_eq_false_iff_ne] at h3
  rcases h3 with ((h3 | h3) | h3) | h3
  · rcases ha with ha | ha
    · exact absurd ha h3.1
    · rw [h3.2] at ha; exact absurd ha (by simp)
  · exact absurd h1 h3
  · exact absurd h2 h3
  · exact h3
theorem testBit_flip (c m j : Nat) : (c ^^^ 2 ^ m).testBit j = if j = m then !c.testBit j else c.testBit j := by
  rw [Nat.testBit_xor, Nat.testBit_two_pow]
  by_cases h : j = m
  · rw [if_pos h]; simp [h]
  · rw [if_neg h]; simp [Ne.symm h]
theorem opt_path {n p : Nat} {D : List Nat} (hn : 1 ≤ n) (hn8 : n ≤ 8) (hf : fair n p D = true) : ∀ (x : List Int) (on on' : Int → Bool) (c : Nat), Stands n on c → Small x → runs n on x = some on' → doneOn n on' → (pk (pop c) x ≤ p ∨ p = 8) → D.getD c 0 ≤ x.length
  | [], on, on', c, hS, hs, hr, hd, hp => by
    simp only [runs, Option.some.injEq] at hr
    subst hr
    have hc : c = 2 ^ (n - 1) := by
      apply Nat.eq_of_testBit_eq
      intro j
      rw [Nat.testBit_two_pow]
      by_cases hj : j < n
      · rw [← hS.bit j hj]
        by_cases he : n - 1 = j
        · rw [decide_eq_true he]
          have := hd.2.1
          rw [show ((j : Int) + 1) = (n : Int) by omega]; exact this
        · rw [decide_eq_false he]
          exact hd.2.2 _ (by omega) (by omega)
      · rw [decide_eq_false (by omega)]
        exact Nat.testBit_lt_two_pow (Nat.lt_of_lt_of_le hS.lt (Nat.pow_le_pow_right (by omega) (by omega)))
    have h0 := fair_goal hf
    rw [hc]
    have hlt : 2 ^ (n - 1) < D.length := by
      by_cases h : 2 ^ (n - 1) < D.length
      · exact h
      · rw [List.getD_eq_getElem?_getD, List.getElem?_eq_none (by omega)] at h0
        simp at h0
    rw [List.getD_eq_getElem?_getD, List.getElem?_eq_getElem hlt] at h0 ⊢
    simp at h0 ⊢; omega
  | m :: x, on, on', c, hS, hs, hr, hd, hp => by
    have hm := hs m (by simp)
    simp only [runs] at hr
    split at hr
    · exact absurd hr (by simp)
    · rename_i hb
      unfold badOn at hb
      simp only [Bool.not_eq_true, Bool.or_eq_false_iff, decide_eq_false_iff_not, beq_eq_false_iff_ne, Bool.not_eq_false'] at hb
      obtain ⟨⟨⟨h1, h2⟩, h3⟩, h4⟩ := hb
      have hno := nodeOf_small hm
      obtain ⟨v, hv⟩ : ∃ v : Nat, nodeOf m = (v : Int) + 1 := ⟨(nodeOf m - 1).toNat, by omega⟩
      have hvn : v < n := by omega
      have hbit := hS.bit v hvn
      rw [hv] at h3 h4 hr
      rw [hbit] at h3
      have hc256 : c < 256 := Nat.lt_of_lt_of_le hS.lt (by
        have := Nat.pow_le_pow_right (show 0 < 2 by omega) hn8
        simpa using this)
      have hpf := pop_flip ⟨c, hc256⟩ ⟨v, by omega⟩
      simp only at hpf
      have hS' : Stands n (upd on ((v : Int) + 1) (decide (0 < m))) (c ^^^ 2 ^ v) := by
        refine ⟨Nat.xor_lt_two_pow hS.lt (Nat.pow_lt_pow_right (by omega) hvn), fun j hj => ?_, ?_⟩
        · rw [testBit_flip]
          unfold upd
          by_cases he : j = v
          · subst he
            rw [if_pos rfl, if_pos rfl]
            revert h3
            cases c.testBit j <;> cases decide (0 < m) <;> simp
          · rw [if_neg (by omega), if_neg he]
            exact hS.bit j hj
        · unfold upd
          rw [if_neg (by omega)]; exact hS.zero
      have hne : m ≠ 0 := by intro h0; rw [hno, h0] at h1; simp at h1
      have hpop : ((pop (c ^^^ 2 ^ v) : Nat) : Int) = (pop c : Int) + sg m := by
        unfold sg
        by_cases hpos : 0 < m
        · rw [if_pos hpos]
          rw [decide_eq_true hpos] at h3
          have hcf : c.testBit v = false := by simpa using h3
          rw [hcf] at hpf
          simp at hpf; omega
        · rw [if_neg hpos, if_pos (by omega)]
          rw [decide_eq_false hpos] at h3
          have hct : c.testBit v = true := by simpa using h3
          rw [hct] at hpf
          simp at hpf; omega
      simp only [pk, mx_def] at hp
      rw [← hpop] at hp
      have hle1 : pop c ≤ 8 := pop_le ⟨c, hc256⟩
      have hc2 : c ^^^ 2 ^ v < 256 := Nat.lt_of_lt_of_le hS'.lt (by
        have := Nat.pow_le_pow_right (show 0 < 2 by omega) hn8
        simpa using this)
      have hle2 : pop (c ^^^ 2 ^ v) ≤ 8 := pop_le ⟨c ^^^ 2 ^ v, hc2⟩
      have hge := pk_ge ((pop (c ^^^ 2 ^ v) : Nat) : Int) x
      have ih := opt_path hn hn8 hf x _ on' (c ^^^ 2 ^ v) hS' (fun y hy => hs y (by simp [hy])) hr hd (by omega)
      have ha : v = 0 ∨ c.testBit (v - 1) = true := by
        by_cases h0 : v = 0
        · exact Or.inl h0
        · right
          have := hS.bit (v - 1) (by omega)
          rw [← this, show (((v - 1 : Nat) : Int) + 1) = (v : Int) + 1 - 1 by omega]
          exact h4
      have hmv := fair_move hf hS.lt hvn ha (by omega) (by omega)
      simp only [List.length_cons]
      omega
end Go.Proofs.Ytpkamififbhheaa.Pure
