/- PebbleBest's plain law: the same table on both sides; beyond 8 pebbles nothing changes. -/
import Derived.Test.YtpkamififbhheaaPAlly4
import Derived.Test.YtpkamififbhheaaCap
import Derived.Test.YtpkamififbhheaaBestTabA
import Derived.Test.YtpkamififbhheaaBestTabB
import Derived.Test.YtpkamififbhheaaBestTabC
import Derived.Test.YtpkamififbhheaaRefTabA
import Derived.Test.YtpkamififbhheaaRefTabB
import Derived.Test.YtpkamififbhheaaRefTabC
namespace Go.Proofs.Ytpkamififbhheaa.Pure
open Go.RowKit Go.Proofs.Ytpkamififbhheaa.PAll Go.Proofs.YtpkamififbhheaaW.PrintWords Go.Proofs.YtpkamififbhheaaW.PrintLast

def SameBest (n p : Int) : Prop := ∃ l b, pebble_Best.f 3300 n p = some (l, b) ∧ backstepref44_Best.f 6000 n p = some (l, b) ∧ l.length ≤ 1000
theorem same_1 (p : Int) (h0 : 1 ≤ p) (h1 : p ≤ 8) : SameBest 1 p := by
  obtain rfl | rfl | rfl | rfl | rfl | rfl | rfl | rfl : p = 1 ∨ p = 2 ∨ p = 3 ∨ p = 4 ∨ p = 5 ∨ p = 6 ∨ p = 7 ∨ p = 8 := by omega
  · exact ⟨_, _, best_1_1, refbest_1_1, by decide⟩
  · exact ⟨_, _, best_1_2, refbest_1_2, by decide⟩
  · exact ⟨_, _, best_1_3, refbest_1_3, by decide⟩
  · exact ⟨_, _, best_1_4, refbest_1_4, by decide⟩
  · exact ⟨_, _, best_1_5, refbest_1_5, by decide⟩
  · exact ⟨_, _, best_1_6, refbest_1_6, by decide⟩
  · exact ⟨_, _, best_1_7, refbest_1_7, by decide⟩
  · exact ⟨_, _, best_1_8, refbest_1_8, by decide⟩
theorem same_2 (p : Int) (h0 : 1 ≤ p) (h1 : p ≤ 8) : SameBest 2 p := by
  obtain rfl | rfl | rfl | rfl | rfl | rfl | rfl | rfl : p = 1 ∨ p = 2 ∨ p = 3 ∨ p = 4 ∨ p = 5 ∨ p = 6 ∨ p = 7 ∨ p = 8 := by omega
  · exact ⟨_, _, best_2_1, refbest_2_1, by decide⟩
  · exact ⟨_, _, best_2_2, refbest_2_2, by decide⟩
  · exact ⟨_, _, best_2_3, refbest_2_3, by decide⟩
  · exact ⟨_, _, best_2_4, refbest_2_4, by decide⟩
  · exact ⟨_, _, best_2_5, refbest_2_5, by decide⟩
  · exact ⟨_, _, best_2_6, refbest_2_6, by decide⟩
  · exact ⟨_, _, best_2_7, refbest_2_7, by decide⟩
  · exact ⟨_, _, best_2_8, refbest_2_8, by decide⟩
theorem same_3 (p : Int) (h0 : 1 ≤ p) (h1 : p ≤ 8) : SameBest 3 p := by
  obtain rfl | rfl | rfl | rfl | rfl | rfl | rfl | rfl : p = 1 ∨ p = 2 ∨ p = 3 ∨ p = 4 ∨ p = 5 ∨ p = 6 ∨ p = 7 ∨ p = 8 := by omega
  · exact ⟨_, _, best_3_1, refbest_3_1, by decide⟩
  · exact ⟨_, _, best_3_2, refbest_3_2, by decide⟩
  · exact ⟨_, _, best_3_3, refbest_3_3, by decide⟩
  · exact ⟨_, _, best_3_4, refbest_3_4, by decide⟩
  · exact ⟨_, _, best_3_5, refbest_3_5, by decide⟩
  · exact ⟨_, _, best_3_6, refbest_3_6, by decide⟩
  · exact ⟨_, _, best_3_7, refbest_3_7, by decide⟩
  · exact ⟨_, _, best_3_8, refbest_3_8, by decide⟩
theorem same_4 (p : Int) (h0 : 1 ≤ p) (h1 : p ≤ 8) : SameBest 4 p := by
  obtain rfl | rfl | rfl | rfl | rfl | rfl | rfl | rfl : p = 1 ∨ p = 2 ∨ p = 3 ∨ p = 4 ∨ p = 5 ∨ p = 6 ∨ p = 7 ∨ p = 8 := by omega
  · exact ⟨_, _, best_4_1, refbest_4_1, by decide⟩
  · exact ⟨_, _, best_4_2, refbest_4_2, by decide⟩
  · exact ⟨_, _, best_4_3, refbest_4_3, by decide⟩
  · exact ⟨_, _, best_4_4, refbest_4_4, by decide⟩
  · exact ⟨_, _, best_4_5, refbest_4_5, by decide⟩
  · exact ⟨_, _, best_4_6, refbest_4_6, by decide⟩
  · exact ⟨_, _, best_4_7, refbest_4_7, by decide⟩
  · exact ⟨_, _, best_4_8, refbest_4_8, by decide⟩
theorem same_5 (p : Int) (h0 : 1 ≤ p) (h1 : p ≤ 8) : SameBest 5 p := by
  obtain rfl | rfl | rfl | rfl | rfl | rfl | rfl | rfl : p = 1 ∨ p = 2 ∨ p = 3 ∨ p = 4 ∨ p = 5 ∨ p = 6 ∨ p = 7 ∨ p = 8 := by omega
  · exact ⟨_, _, best_5_1, refbest_5_1, by decide⟩
  · exact ⟨_, _, best_5_2, refbest_5_2, by decide⟩
  · exact ⟨_, _, best_5_3, refbest_5_3, by decide⟩
  · exact ⟨_, _, best_5_4, refbest_5_4, by decide⟩
  · exact ⟨_, _, best_5_5, refbest_5_5, by decide⟩
  · exact ⟨_, _, best_5_6, refbest_5_6, by decide⟩
  · exact ⟨_, _, best_5_7, refbest_5_7, by decide⟩
  · exact ⟨_, _, best_5_8, refbest_5_8, by decide⟩
theorem same_6 (p : Int) (h0 : 1 ≤ p) (h1 : p ≤ 8) : SameBest 6 p := by
  obtain rfl | rfl | rfl | rfl | rfl | rfl | rfl | rfl : p = 1 ∨ p = 2 ∨ p = 3 ∨ p = 4 ∨ p = 5 ∨ p = 6 ∨ p = 7 ∨ p = 8 := by omega
  · exact ⟨_, _, best_6_1, refbest_6_1, by decide⟩
  · exact ⟨_, _, best_6_2, refbest_6_2, by decide⟩
  · exact ⟨_, _, best_6_3, refbest_6_3, by decide⟩
  · exact ⟨_, _, best_6_4, refbest_6_4, by decide⟩
  · exact ⟨_, _, best_6_5, refbest_6_5, by decide⟩
  · exact ⟨_, _, best_6_6, refbest_6_6, by decide⟩
  · exact ⟨_, _, best_6_7, refbest_6_7, by decide⟩
  · exact ⟨_, _, best_6_8, refbest_6_8, by decide⟩
theorem same_7 (p : Int) (h0 : 1 ≤ p) (h1 : p ≤ 8) : SameBest 7 p := by
  obtain rfl | rfl | rfl | rfl | rfl | rfl | rfl | rfl : p = 1 ∨ p = 2 ∨ p = 3 ∨ p = 4 ∨ p = 5 ∨ p = 6 ∨ p = 7 ∨ p = 8 := by omega
  · exact ⟨_, _, best_7_1, refbest_7_1, by decide⟩
  · exact ⟨_, _, best_7_2, refbest_7_2, by decide⟩
  · exact ⟨_, _, best_7_3, refbest_7_3, by decide⟩
  · exact ⟨_, _, best_7_4, refbest_7_4, by decide⟩
  · exact ⟨_, _, best_7_5, refbest_7_5, by decide⟩
  · exact ⟨_, _, best_7_6, refbest_7_6, by decide⟩
  · exact ⟨_, _, best_7_7, refbest_7_7, by decide⟩
  · exact ⟨_, _, best_7_8, refbest_7_8, by decide⟩
theorem same_8 (p : Int) (h0 : 1 ≤ p) (h1 : p ≤ 8) : SameBest 8 p := by
  obtain rfl | rfl | rfl | rfl | rfl | rfl | rfl | rfl : p = 1 ∨ p = 2 ∨ p = 3 ∨ p = 4 ∨ p = 5 ∨ p = 6 ∨ p = 7 ∨ p = 8 := by omega
  · exact ⟨_, _, best_8_1, refbest_8_1, by decide⟩
  · exact ⟨_, _, best_8_2, refbest_8_2, by decide⟩
  · exact ⟨_, _, best_8_3, refbest_8_3, by decide⟩
  · exact ⟨_, _, best_8_4, refbest_8_4, by decide⟩
  · exact ⟨_, _, best_8_5, refbest_8_5, by decide⟩
  · exact ⟨_, _, best_8_6, refbest_8_6, by decide⟩
  · exact ⟨_, _, best_8_7, refbest_8_7, by decide⟩
  · exact ⟨_, _, best_8_8, refbest_8_8, by decide⟩
theorem same_in {n p : Int} (hn : 1 ≤ n) (hn8 : n ≤ 8) (hp : 1 ≤ p) : SameBest n p := by
  have h8 : ∀ q : Int, 1 ≤ q → q ≤ 8 → SameBest n q := by
    intro q hq hq8
    obtain rfl | rfl | rfl | rfl | rfl | rfl | rfl | rfl : n = 1 ∨ n = 2 ∨ n = 3 ∨ n = 4 ∨ n = 5 ∨ n = 6 ∨ n = 7 ∨ n = 8 := by omega
    · exact same_1 q hq hq8
    · exact same_2 q hq hq8
    · exact same_3 q hq hq8
    · exact same_4 q hq hq8
    · exact same_5 q hq hq8
    · exact same_6 q hq hq8
    · exact same_7 q hq hq8
    · exact same_8 q hq hq8
  by_cases hc : p ≤ 8
  · exact h8 p hp hc
  · have h := h8 8 (by omega) (by omega)
    unfold SameBest at h ⊢
    rw [best_cap hn hn8 (show (8 : Int) ≤ p by omega) (Int.le_refl 8), refbest_cap hn hn8 (show (8 : Int) ≤ p by omega) (Int.le_refl 8)]
    exact h
theorem best_j0 (k : Nat) (n p : Int) : pebble_Best.j0 (k + 1) n p true = some ([], false) := by
  rw [pebble_Best.j0, if_pos rfl]
theorem refbest_j0 (k : Nat) (n p : Int) : backstepref44_Best.j0 (k + 1) n p true = some ([], false) := by
  rw [backstepref44_Best.j0, if_pos rfl]
theorem same_out {n p : Int} (h : n < 1 ∨ 12 < n ∨ p < 1) : SameBest n p := by
  refine ⟨[], false, ?_, ?_, by simp⟩
  · have hj := best_j0 3299 n p
    unfold pebble_Best.f
    by_cases c1 : n < 1
    · rw [if_pos c1]; exact hj
    · rw [if_neg c1]
      by_cases c2 : n > 12
      · rw [if_pos c2]; exact hj
      · rw [if_neg c2, decide_eq_true (show p < 1 by omega)]; exact hj
  · have hj := refbest_j0 5999 n p
    unfold backstepref44_Best.f
    by_cases c1 : n < 1
    · rw [if_pos c1]; exact hj
    · rw [if_neg c1]
      by_cases c2 : n > 12
      · rw [if_pos c2]; exact hj
      · rw [if_neg c2, decide_eq_true (show p < 1 by omega)]; exact hj
theorem PebbleBest : backsteplaw44_PebbleBest.Pure := by
  intro n p h0 h1
  have key : ∃ K, 200 ≤ K ∧ backsteplaw44_PebbleBest.j0 (K + 1) n p (decide (8 < n ∧ n ≤ 12)) = some true := by
    obtain ⟨K, hK⟩ : ∃ K, K = 8000 := ⟨_, rfl⟩
    refine ⟨K, by omega, ?_⟩
    by_cases hc : 8 < n ∧ n ≤ 12
    · have ha := upto (fun k => backsteplaw44_awake.mono k) awake_ok (show 200 ≤ K by omega)
      rw [decide_eq_true hc, backsteplaw44_PebbleBest.j0, if_pos rfl, ha]; rfl
    · have hs : SameBest n p := by
        by_cases ho : n < 1 ∨ 12 < n ∨ p < 1
        · exact same_out ho
        · exact same_in (by omega) (by omega) (by omega)
      obtain ⟨l, b, h2, h3, hl⟩ := hs
      have h2' := upto (fun k => pebble_Best.mono n p k) h2 (show 3300 ≤ K by omega)
      have h3' := upto (fun k => backstepref44_Best.mono n p k) h3 (show 6000 ≤ K by omega)
      have h4 := upto (fun k => backsteplaw44_ints.mono l l k) (ints_same l (by omega)) (show _ ≤ K by omega)
      rw [decide_eq_false hc, backsteplaw44_PebbleBest.j0, if_neg (by simp), h2', Option.bind_some, h3', Option.bind_some, if_pos (by simp), h4]
      rfl
  obtain ⟨K, hK0, hK⟩ := key
  refine ⟨K + 1, ?_⟩
  have ha := upto (fun k => backsteplaw44_awake.mono k) awake_ok (show 200 ≤ K + 1 by omega)
  unfold backsteplaw44_PebbleBest.f
  rw [ha, Option.bind_some, if_pos rfl]
  by_cases c : n > 8
  · rw [if_pos c]
    have e : decide (n ≤ 12) = decide (8 < n ∧ n ≤ 12) := by apply decide_eq_decide.2; omega
    rw [e]; exact hK
  · rw [if_neg c]
    have e : decide (8 < n ∧ n ≤ 12) = false := decide_eq_false (by omega)
    rw [e] at hK; exact hK

end Go.Proofs.Ytpkamififbhheaa.Pure
