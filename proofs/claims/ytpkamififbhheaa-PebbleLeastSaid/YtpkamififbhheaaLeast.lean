/- PebbleLeast's plain law: pebble.Best is at most as long as any legal and complete sequence of that peak. -/
import Derived.Test.YtpkamififbhheaaLeaW
import Derived.Test.YtpkamififbhheaaOpt
import Derived.Test.YtpkamififbhheaaDistA
import Derived.Test.YtpkamififbhheaaBestTabA
import Derived.Test.YtpkamififbhheaaBestTabB
import Derived.Test.YtpkamififbhheaaBestTabC
import Derived.Test.YtpkamififbhheaaCapB
import Derived.Test.YtpkamififbhheaaGreat
import Derived.Test.YtpkamififbhheaaPurePebbleComplete
set_option linter.unusedVariables false
set_option linter.unusedSimpArgs false
namespace Go.Proofs.Ytpkamififbhheaa.Pure
open Go.RowKit Go.Proofs.Ytpkamififbhheaa.PAll Go.Proofs.YtpkamififbhheaaW.PrintWords Go.Proofs.YtpkamififbhheaaW.PrintLast Go.Proofs.YtpkamififbhheaaW.PrintMore

def Least (n : Nat) (p : Nat) : Prop := ∃ best b D, pebble_Best.f 3300 (n : Int) (p : Int) = some (best, b) ∧ fair n p D = true ∧ (D.getD 0 0 = 1000000 ∨ (b = true ∧ D.getD 0 0 = best.length))
theorem least_1 (p : Nat) (h0 : 1 ≤ p) (h1 : p ≤ 8) : Least 1 p := by
  obtain rfl | rfl | rfl | rfl | rfl | rfl | rfl | rfl : p = 1 ∨ p = 2 ∨ p = 3 ∨ p = 4 ∨ p = 5 ∨ p = 6 ∨ p = 7 ∨ p = 8 := by omega
  · exact ⟨_, _, dist_1_1, best_1_1, fair_1_1, Or.inr ⟨rfl, far_1_1⟩⟩
  · exact ⟨_, _, dist_1_2, best_1_2, fair_1_2, Or.inr ⟨rfl, far_1_2⟩⟩
  · exact ⟨_, _, dist_1_3, best_1_3, fair_1_3, Or.inr ⟨rfl, far_1_3⟩⟩
  · exact ⟨_, _, dist_1_4, best_1_4, fair_1_4, Or.inr ⟨rfl, far_1_4⟩⟩
  · exact ⟨_, _, dist_1_5, best_1_5, fair_1_5, Or.inr ⟨rfl, far_1_5⟩⟩
  · exact ⟨_, _, dist_1_6, best_1_6, fair_1_6, Or.inr ⟨rfl, far_1_6⟩⟩
  · exact ⟨_, _, dist_1_7, best_1_7, fair_1_7, Or.inr ⟨rfl, far_1_7⟩⟩
  · exact ⟨_, _, dist_1_8, best_1_8, fair_1_8, Or.inr ⟨rfl, far_1_8⟩⟩
theorem least_2 (p : Nat) (h0 : 1 ≤ p) (h1 : p ≤ 8) : Least 2 p := by
  obtain rfl | rfl | rfl | rfl | rfl | rfl | rfl | rfl : p = 1 ∨ p = 2 ∨ p = 3 ∨ p = 4 ∨ p = 5 ∨ p = 6 ∨ p = 7 ∨ p = 8 := by omega
  · exact ⟨_, _, dist_2_1, best_2_1, fair_2_1, Or.inl far_2_1⟩
  · exact ⟨_, _, dist_2_2, best_2_2, fair_2_2, Or.inr ⟨rfl, far_2_2⟩⟩
  · exact ⟨_, _, dist_2_3, best_2_3, fair_2_3, Or.inr ⟨rfl, far_2_3⟩⟩
  · exact ⟨_, _, dist_2_4, best_2_4, fair_2_4, Or.inr ⟨rfl, far_2_4⟩⟩
  · exact ⟨_, _, dist_2_5, best_2_5, fair_2_5, Or.inr ⟨rfl, far_2_5⟩⟩
  · exact ⟨_, _, dist_2_6, best_2_6, fair_2_6, Or.inr ⟨rfl, far_2_6⟩⟩
  · exact ⟨_, _, dist_2_7, best_2_7, fair_2_7, Or.inr ⟨rfl, far_2_7⟩⟩
  · exact ⟨_, _, dist_2_8, best_2_8, fair_2_8, Or.inr ⟨rfl, far_2_8⟩⟩
theorem least_3 (p : Nat) (h0 : 1 ≤ p) (h1 : p ≤ 8) : Least 3 p := by
  obtain rfl | rfl | rfl | rfl | rfl | rfl | rfl | rfl : p = 1 ∨ p = 2 ∨ p = 3 ∨ p = 4 ∨ p = 5 ∨ p = 6 ∨ p = 7 ∨ p = 8 := by omega
  · exact ⟨_, _, dist_3_1, best_3_1, fair_3_1, Or.inl far_3_1⟩
  · exact ⟨_, _, dist_3_2, best_3_2, fair_3_2, Or.inl far_3_2⟩
  · exact ⟨_, _, dist_3_3, best_3_3, fair_3_3, Or.inr ⟨rfl, far_3_3⟩⟩
  · exact ⟨_, _, dist_3_4, best_3_4, fair_3_4, Or.inr ⟨rfl, far_3_4⟩⟩
  · exact ⟨_, _, dist_3_5, best_3_5, fair_3_5, Or.inr ⟨rfl, far_3_5⟩⟩
  · exact ⟨_, _, dist_3_6, best_3_6, fair_3_6, Or.inr ⟨rfl, far_3_6⟩⟩
  · exact ⟨_, _, dist_3_7, best_3_7, fair_3_7, Or.inr ⟨rfl, far_3_7⟩⟩
  · exact ⟨_, _, dist_3_8, best_3_8, fair_3_8, Or.inr ⟨rfl, far_3_8⟩⟩
theorem least_4 (p : Nat) (h0 : 1 ≤ p) (h1 : p ≤ 8) : Least 4 p := by
  obtain rfl | rfl | rfl | rfl | rfl | rfl | rfl | rfl : p = 1 ∨ p = 2 ∨ p = 3 ∨ p = 4 ∨ p = 5 ∨ p = 6 ∨ p = 7 ∨ p = 8 := by omega
  · exact ⟨_, _, dist_4_1, best_4_1, fair_4_1, Or.inl far_4_1⟩
  · exact ⟨_, _, dist_4_2, best_4_2, fair_4_2, Or.inl far_4_2⟩
  · exact ⟨_, _, dist_4_3, best_4_3, fair_4_3, Or.inr ⟨rfl, far_4_3⟩⟩
  · exact ⟨_, _, dist_4_4, best_4_4, fair_4_4, Or.inr ⟨rfl, far_4_4⟩⟩
  · exact ⟨_, _, dist_4_5, best_4_5, fair_4_5, Or.inr ⟨rfl, far_4_5⟩⟩
  · exact ⟨_, _, dist_4_6, best_4_6, fair_4_6, Or.inr ⟨rfl, far_4_6⟩⟩
  · exact ⟨_, _, dist_4_7, best_4_7, fair_4_7, Or.inr ⟨rfl, far_4_7⟩⟩
  · exact ⟨_, _, dist_4_8, best_4_8, fair_4_8, Or.inr ⟨rfl, far_4_8⟩⟩
theorem least_5 (p : Nat) (h0 : 1 ≤ p) (h1 : p ≤ 8) : Least 5 p := by
  obtain rfl | rfl | rfl | rfl | rfl | rfl | rfl | rfl : p = 1 ∨ p = 2 ∨ p = 3 ∨ p = 4 ∨ p = 5 ∨ p = 6 ∨ p = 7 ∨ p = 8 := by omega
  · exact ⟨_, _, dist_5_1, best_5_1, fair_5_1, Or.inl far_5_1⟩
  · exact ⟨_, _, dist_5_2, best_5_2, fair_5_2, Or.inl far_5_2⟩
  · exact ⟨_, _, dist_5_3, best_5_3, fair_5_3, Or.inl far_5_3⟩
  · exact ⟨_, _, dist_5_4, best_5_4, fair_5_4, Or.inr ⟨rfl, far_5_4⟩⟩
  · exact ⟨_, _, dist_5_5, best_5_5, fair_5_5, Or.inr ⟨rfl, far_5_5⟩⟩
  · exact ⟨_, _, dist_5_6, best_5_6, fair_5_6, Or.inr ⟨rfl, far_5_6⟩⟩
  · exact ⟨_, _, dist_5_7, best_5_7, fair_5_7, Or.inr ⟨rfl, far_5_7⟩⟩
  · exact ⟨_, _, dist_5_8, best_5_8, fair_5_8, Or.inr ⟨rfl, far_5_8⟩⟩
theorem least_6 (p : Nat) (h0 : 1 ≤ p) (h1 : p ≤ 8) : Least 6 p := by
  obtain rfl | rfl | rfl | rfl | rfl | rfl | rfl | rfl : p = 1 ∨ p = 2 ∨ p = 3 ∨ p = 4 ∨ p = 5 ∨ p = 6 ∨ p = 7 ∨ p = 8 := by omega
  · exact ⟨_, _, dist_6_1, best_6_1, fair_6_1, Or.inl far_6_1⟩
  · exact ⟨_, _, dist_6_2, best_6_2, fair_6_2, Or.inl far_6_2⟩
  · exact ⟨_, _, dist_6_3, best_6_3, fair_6_3, Or.inl far_6_3⟩
  · exact ⟨_, _, dist_6_4, best_6_4, fair_6_4, Or.inr ⟨rfl, far_6_4⟩⟩
  · exact ⟨_, _, dist_6_5, best_6_5, fair_6_5, Or.inr ⟨rfl, far_6_5⟩⟩
  · exact ⟨_, _, dist_6_6, best_6_6, fair_6_6, Or.inr ⟨rfl, far_6_6⟩⟩
  · exact ⟨_, _, dist_6_7, best_6_7, fair_6_7, Or.inr ⟨rfl, far_6_7⟩⟩
  · exact ⟨_, _, dist_6_8, best_6_8, fair_6_8, Or.inr ⟨rfl, far_6_8⟩⟩
theorem least_7 (p : Nat) (h0 : 1 ≤ p) (h1 : p ≤ 8) : Least 7 p := by
  obtain rfl | rfl | rfl | rfl | rfl | rfl | rfl | rfl : p = 1 ∨ p = 2 ∨ p = 3 ∨ p = 4 ∨ p = 5 ∨ p = 6 ∨ p = 7 ∨ p = 8 := by omega
  · exact ⟨_, _, dist_7_1, best_7_1, fair_7_1, Or.inl far_7_1⟩
  · exact ⟨_, _, dist_7_2, best_7_2, fair_7_2, Or.inl far_7_2⟩
  · exact ⟨_, _, dist_7_3, best_7_3, fair_7_3, Or.inl far_7_3⟩
  · exact ⟨_, _, dist_7_4, best_7_4, fair_7_4, Or.inr ⟨rfl, far_7_4⟩⟩
  · exact ⟨_, _, dist_7_5, best_7_5, fair_7_5, Or.inr ⟨rfl, far_7_5⟩⟩
  · exact ⟨_, _, dist_7_6, best_7_6, fair_7_6, Or.inr ⟨rfl, far_7_6⟩⟩
  · exact ⟨_, _, dist_7_7, best_7_7, fair_7_7, Or.inr ⟨rfl, far_7_7⟩⟩
  · exact ⟨_, _, dist_7_8, best_7_8, fair_7_8, Or.inr ⟨rfl, far_7_8⟩⟩
theorem least_8 (p : Nat) (h0 : 1 ≤ p) (h1 : p ≤ 8) : Least 8 p := by
  obtain rfl | rfl | rfl | rfl | rfl | rfl | rfl | rfl : p = 1 ∨ p = 2 ∨ p = 3 ∨ p = 4 ∨ p = 5 ∨ p = 6 ∨ p = 7 ∨ p = 8 := by omega
  · exact ⟨_, _, dist_8_1, best_8_1, fair_8_1, Or.inl far_8_1⟩
  · exact ⟨_, _, dist_8_2, best_8_2, fair_8_2, Or.inl far_8_2⟩
  · exact ⟨_, _, dist_8_3, best_8_3, fair_8_3, Or.inl far_8_3⟩
  · exact ⟨_, _, dist_8_4, best_8_4, fair_8_4, Or.inr ⟨rfl, far_8_4⟩⟩
  · exact ⟨_, _, dist_8_5, best_8_5, fair_8_5, Or.inr ⟨rfl, far_8_5⟩⟩
  · exact ⟨_, _, dist_8_6, best_8_6, fair_8_6, Or.inr ⟨rfl, far_8_6⟩⟩
  · exact ⟨_, _, dist_8_7, best_8_7, fair_8_7, Or.inr ⟨rfl, far_8_7⟩⟩
  · exact ⟨_, _, dist_8_8, best_8_8, fair_8_8, Or.inr ⟨rfl, far_8_8⟩⟩
theorem least_any {n p : Nat} (hn : 1 ≤ n) (hn8 : n ≤ 8) (hp : 1 ≤ p) (hp8 : p ≤ 8) : Least n p := by
  obtain rfl | rfl | rfl | rfl | rfl | rfl | rfl | rfl : n = 1 ∨ n = 2 ∨ n = 3 ∨ n = 4 ∨ n = 5 ∨ n = 6 ∨ n = 7 ∨ n = 8 := by omega
  · exact least_1 p hp hp8
  · exact least_2 p hp hp8
  · exact least_3 p hp hp8
  · exact least_4 p hp hp8
  · exact least_5 p hp hp8
  · exact least_6 p hp hp8
  · exact least_7 p hp hp8
  · exact least_8 p hp hp8
theorem least_ok {K : Nat} (hK : 300000 ≤ K) {n : Nat} (hn : 1 ≤ n) (hn8 : n ≤ 8) (x : List Int) (hs : Small x) (hl : x.length ≤ 262144) : LeastOk K (n : Int) x := by
  have wfn : (Lit.int .i64 (n : Int)).wf = true := wf64.2 (by omega)
  have hL : pebble_Legal.f (n : Int) x = some (legalGo n 0 [] x) := by
    unfold pebble_Legal.f
    rw [if_pos ⟨wfn, by omega, fun y hy => wf64.2 (by have := hs y hy; omega)⟩]
  refine ⟨(legalGo n 0 [] x).1, (legalGo n 0 [] x).2, hL, fun hok => ?_⟩
  rcases legal_cases n x 0 [] with ⟨_, h2⟩ | ⟨_, on', hr⟩
  · rw [h2] at hok; exact absurd hok (by simp)
  · have hon : onOf [] = fun y => y == 0 := by funext y; simp [onOf]
    obtain ⟨p1, o1, q1, g1⟩ := legal_runs n x [] 0 [] _ (by simp) hr
    simp only [List.append_nil] at g1
    have d1 := legal_end n (0 + x.length) p1 q1
    rw [g1] at hok
    have hd := d1.2.1 hok
    rw [o1] at hd
    have hpk : 1 ≤ pk 0 x := by
      cases x with
      | nil =>
        simp only [runs, Option.some.injEq] at hr
        have := hd.2.1
        rw [← hr, hon] at this
        simp at this; omega
      | cons m x =>
        have hm := hs m (by simp)
        simp only [runs] at hr
        split at hr
        · exact absurd hr (by simp)
        · rename_i hb
          unfold badOn at hb
          simp only [Bool.not_eq_true, Bool.or_eq_false_iff, decide_eq_false_iff_not, beq_eq_false_iff_ne, Bool.not_eq_false'] at hb
          obtain ⟨⟨⟨h1, h2⟩, h3⟩, h4⟩ := hb
          have hz : onOf [] (nodeOf m) = false := by rw [hon]; simp; omega
          rw [hz] at h3
          have hpos : 0 < m := by
            by_cases hp : 0 < m
            · exact hp
            · rw [decide_eq_false hp] at h3; exact absurd rfl h3
          have hsg : sg m = 1 := by unfold sg; rw [if_pos hpos]
          simp only [pk, mx_def, hsg]
          have := pk_ge (0 + 1) x
          omega
    have hS : Stands n (onOf []) 0 := ⟨Nat.two_pow_pos n, fun j hj => by rw [hon]; simp; omega, by rw [hon]; rfl⟩
    have hpeak := upto (fun k => pebble_Peak.mono x k) (peak_f x (by omega)) (show x.length + 1 ≤ K by omega)
    obtain ⟨q, hq⟩ : ∃ q : Nat, q = (min (pk 0 x) 8).toNat := ⟨_, rfl⟩
    obtain ⟨best, b, D, hB, hf, hor⟩ := least_any (n := n) (p := q) hn hn8 (by omega) (by omega)
    have hp0 : pop 0 = 0 := by decide
    have hopt := opt_path hn hn8 hf x (onOf []) on' 0 hS hs hr hd (by rw [hp0]; have e0 : pk ((0 : Nat) : Int) x = pk 0 x := rfl; rw [e0]; omega)
    have hBP : pebble_Best.f 3300 (n : Int) (max 0 (pk 0 x)) = some (best, b) := by
      by_cases hc : pk 0 x ≤ 8
      · rw [show max 0 (pk 0 x) = (q : Int) by omega]; exact hB
      · rw [best_cap (p := max 0 (pk 0 x)) (q := (q : Int)) (by omega) (by omega) (by omega) (by omega)]; exact hB
    have hBK := upto (fun k => pebble_Best.mono (n : Int) (max 0 (pk 0 x)) k) hBP (show 3300 ≤ K by omega)
    rcases hor with h | ⟨rfl, h⟩
    · omega
    · exact ⟨_, best, hpeak, hBK, by omega⟩
end Go.Proofs.Ytpkamififbhheaa.Pure
