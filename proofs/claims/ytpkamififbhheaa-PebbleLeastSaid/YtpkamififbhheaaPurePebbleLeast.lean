/- PebbleLeast's plain law, joined. -/
import Derived.Test.YtpkamififbhheaaLeast
set_option linter.unusedVariables false
set_option linter.unusedSimpArgs false
namespace Go.Proofs.Ytpkamififbhheaa.Pure
open Go.RowKit Go.Proofs.Ytpkamififbhheaa.PAll Go.Proofs.YtpkamififbhheaaW.PrintWords Go.Proofs.YtpkamififbhheaaW.PrintLast
theorem PebbleLeast (a0 a1 : Int) (l : List Int) (h0 : 0 ≤ a0 ∧ a0 < 256) (h1 : 0 ≤ a1 ∧ a1 < 256) (hm8 : l.length * 8 ≤ 140737488351232) :
    ∃ k g, backsteplaw44_awake.f k = some true ∧ backsteplaw44_great.f k l = some g ∧
      (g = false → ∃ bl, pebble_Bennett.f (1 + a0 % 8) (2 + a1 % 8) = some (bl, 0) ∧ LeastOk k (1 + a0 % 8) bl ∧ LeastOk k (1 + a0 % 8) l ∧ bl.length ≤ 1000000 ∧ l.length ≤ 1000000) := by
  obtain ⟨K0, g, hg, hg2⟩ := great_cases l (by omega)
  obtain ⟨K, hK⟩ : ∃ K, K = max 300000 K0 := ⟨_, rfl⟩
  refine ⟨K, g, upto (fun k => backsteplaw44_awake.mono k) awake_ok (by omega), upto (fun k => backsteplaw44_great.mono l k) hg (by omega), fun h => ?_⟩
  obtain ⟨hl, hs⟩ := hg2 h
  obtain ⟨n, hn⟩ : ∃ n : Nat, (n : Int) = 1 + a0 % 8 := ⟨(1 + a0 % 8).toNat, by omega⟩
  obtain ⟨b, hb⟩ : ∃ b : Int, b = 2 + a1 % 8 := ⟨_, rfl⟩
  rw [← hn, ← hb]
  have hpow : ∀ q : Nat, (q : Int) ≤ b ^ q := fun q => by
    induction q with
    | zero => simp
    | succ q ih =>
      rw [Int.pow_succ]
      have hB : (1 : Int) ≤ b ^ q := pow_pos1 (by omega) _
      have h4 : b ^ q * 2 ≤ b ^ q * b := Int.mul_le_mul_of_nonneg_left (by omega) (by omega)
      push_cast; omega
  have gd := strat_good (n : Int) b (by omega) (by omega) n n 0 (n : Int) (by omega) (by omega) (by omega) (by omega) (hpow n)
  have hsh := strat_short b (by omega) n 0 (n : Int) (by omega) (by omega)
  have hB : pebble_Bennett.f (n : Int) b = some (strat b n 0 (n : Int), 0) := by
    have := bennett_f (n := (n : Int)) (k := b) (by omega) (by omega) (by omega) (by omega)
    simpa using this
  refine ⟨_, hB, least_ok (by omega) (by omega) (by omega) _ gd.small hsh, least_ok (by omega) (by omega) (by omega) l (fun x hx => by have := hs x hx; omega) (by omega), by omega, by omega⟩
end Go.Proofs.Ytpkamififbhheaa.Pure
