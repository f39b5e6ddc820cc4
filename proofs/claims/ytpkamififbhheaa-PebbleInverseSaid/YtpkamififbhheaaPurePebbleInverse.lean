/- PebbleInverse's plain law: a run, then its reverse, leads back, by the same configurations. -/
import Derived.Test.YtpkamififbhheaaPAllx7
import Derived.Test.YtpkamififbhheaaGame
import Derived.Test.YtpkamififbhheaaGreat
namespace Go.Proofs.Ytpkamififbhheaa.Pure
open Go.RowKit Go.Proofs.Ytpkamififbhheaa.PAll Go.Proofs.YtpkamififbhheaaW.PrintWords Go.Proofs.YtpkamififbhheaaW.PrintLast

theorem inverse_j0 (K : Nat) (n : Int) (l : List Int) (L1 L2 L3 : Int × Bool) (P : Int) (hl : l.length ≤ 600)
    (hI1 : pebble_Inverse.f l = some (negRev l)) (hI2 : pebble_Inverse.f (negRev l) = some l) (hi : backsteplaw44_ints.f K l l = some true)
    (hL1 : pebble_Legal.f n l = some L1) (hL2 : pebble_Legal.f n (l ++ negRev l) = some L2) (hL3 : pebble_Legal.f n (l ++ negRev l ++ l) = some L3)
    (hP1 : pebble_Peak.f K l = some P) (hP2 : pebble_Peak.f K (l ++ negRev l) = some P)
    (h1 : L1.1 < (l.length : Int) → L1.2 = false)
    (h2 : ¬ L1.1 < (l.length : Int) → L2.1 = ((l ++ negRev l).length : Int) ∧ L2.2 = false ∧ L3.1 = ((l ++ negRev l ++ l).length : Int) ∧ L3.2 = L1.2) :
    backsteplaw44_PebbleInverse.j0 (K + 1) n l false = some true := by
  rw [backsteplaw44_PebbleInverse.j0, if_neg (by simp), hI1, Option.bind_some, hI2, Option.bind_some, hi, Option.bind_some, if_pos rfl, hL1, Option.bind_some]
  have hn := negRev_length l
  by_cases c : L1.1 < (l.length : Int)
  · rw [if_pos c, h1 c]; rfl
  · obtain ⟨e1, e2, e3, e4⟩ := h2 c
    rw [if_neg c]
    simp only [Option.bind_some, List.nil_append, List.length_nil, List.length_append, hn]
    rw [if_pos (by omega), if_pos (by omega), hL2, Option.bind_some, if_pos (by omega), if_pos (by omega), hL3, Option.bind_some]
    simp only [List.length_append, hn] at e1 e3
    rw [if_pos (by rw [e1]; omega), if_neg (by rw [e2]; simp), hP2, Option.bind_some, hP1, Option.bind_some, if_pos rfl, if_pos (by rw [e3]; omega), e4]
    simp
theorem PebbleInverse : backsteplaw44_PebbleInverse.Pure := by
  intro n l h0 hm hm8 hw
  obtain ⟨K0, b, hb, hb2⟩ := great_cases l (by omega)
  have key : ∃ K, 200 ≤ K ∧ K0 ≤ K ∧ backsteplaw44_PebbleInverse.j0 (K + 1) n l (b || decide (n > 300)) = some true := by
    by_cases hc : (b || decide (n > 300)) = true
    · obtain ⟨K, hK⟩ : ∃ K, K = max 200 K0 := ⟨_, rfl⟩
      refine ⟨K, by omega, by omega, ?_⟩
      have ha := upto (fun k => backsteplaw44_awake.mono k) awake_ok (show 200 ≤ K by omega)
      rw [hc, backsteplaw44_PebbleInverse.j0, if_pos rfl, ha]; rfl
    · have hc : (b || decide (n > 300)) = false := by simpa using hc
      simp only [Bool.or_eq_false_iff, decide_eq_false_iff_not] at hc
      obtain ⟨hl, hs⟩ := hb2 hc.1
      have hsm : Small l := fun x hx => by have := hs x hx; omega
      have hsn := hsm.negRev
      have wfs : ∀ q : List Int, Small q → ∀ x ∈ q, (Lit.int .i64 x).wf = true := fun q hq x hx => by
        have := hq x hx
        exact wf64.2 (by omega)
      have hnl := negRev_length l
      have s2 : Small (l ++ negRev l) := fun x hx => by
        rcases List.mem_append.1 hx with h | h
        · exact hsm x h
        · exact hsn x h
      have s3 : Small (l ++ negRev l ++ l) := fun x hx => by
        rcases List.mem_append.1 hx with h | h
        · exact s2 x h
        · exact hsm x h
      have hleg : ∀ q : List Int, Small q → q.length ≤ 2000 → pebble_Legal.f n q = some (legalGo n 0 [] q) := fun q hq hql => by
        unfold pebble_Legal.f
        rw [if_pos ⟨h0, by omega, wfs q hq⟩]
      obtain ⟨K, hK⟩ : ∃ K, K = max 2000 K0 := ⟨_, rfl⟩
      refine ⟨K, by omega, by omega, ?_⟩
      rw [hc.1, decide_eq_false hc.2]
      refine inverse_j0 K n l _ _ _ (max 0 (pk 0 l)) hl ?_ ?_ ?_ (hleg l hsm (by omega)) (hleg _ s2 (by simp; omega)) (hleg _ s3 (by simp; omega)) ?_ ?_ ?_ ?_
      · unfold pebble_Inverse.f; rw [if_pos (by omega)]
      · unfold pebble_Inverse.f; rw [if_pos (by omega), negRev_negRev hsm]
      · exact upto (fun k => backsteplaw44_ints.mono l l k) (ints_same l (by omega)) (by omega)
      · exact upto (fun k => pebble_Peak.mono l k) (peak_f l (by omega)) (by omega)
      · rw [upto (fun k => pebble_Peak.mono (l ++ negRev l) k) (peak_f (l ++ negRev l) (by simp; omega)) (by simp; omega), pk_append]
        have := pk_back 0 l hsm
        congr 1; omega
      · intro hlt
        rcases legal_cases n l 0 [] with ⟨_, h2⟩ | ⟨h1, _⟩
        · exact h2
        · omega
      · intro hge
        rcases legal_cases n l 0 [] with ⟨h1, _⟩ | ⟨_, on', hr⟩
        · omega
        · have hon : onOf [] = fun x => x == 0 := by funext x; simp [onOf]
          have hback := runs_back n l _ on' hsm hr
          have r2 : runs n (onOf []) (l ++ negRev l) = some (onOf []) := by rw [runs_append, hr, Option.bind_some, hback]
          have r3 : runs n (onOf []) (l ++ negRev l ++ l) = some on' := by rw [runs_append, r2, Option.bind_some, hr]
          obtain ⟨p1, o1, q1, g1⟩ := legal_runs n l [] 0 [] _ (by simp) hr
          obtain ⟨p2, o2, q2, g2⟩ := legal_runs n (l ++ negRev l) [] 0 [] _ (by simp) r2
          obtain ⟨p3, o3, q3, g3⟩ := legal_runs n (l ++ negRev l ++ l) [] 0 [] _ (by simp) r3
          simp only [List.append_nil] at g1 g2 g3
          have d1 := legal_end n (0 + l.length) p1 q1
          have d2 := legal_end n (0 + (l ++ negRev l).length) p2 q2
          have d3 := legal_end n (0 + (l ++ negRev l ++ l).length) p3 q3
          rw [o1] at d1; rw [o2] at d2; rw [o3] at d3
          rw [g1, g2, g3]
          refine ⟨by rw [d2.1]; simp, ?_, by rw [d3.1]; simp, ?_⟩
          · rw [← Bool.not_eq_true, d2.2]
            rintro ⟨hn, hd, _⟩
            rw [hon] at hd
            simp at hd; omega
          · rw [Bool.eq_iff_iff, d1.2, d3.2]
  obtain ⟨K, hK0, hK1, hK⟩ := key
  refine ⟨K + 1, ?_⟩
  have ha := upto (fun k => backsteplaw44_awake.mono k) awake_ok (show 200 ≤ K + 1 by omega)
  have hg := upto (fun k => backsteplaw44_great.mono l k) hb (show K0 ≤ K + 1 by omega)
  unfold backsteplaw44_PebbleInverse.f
  rw [ha, Option.bind_some, if_pos rfl, hg, Option.bind_some]
  cases b
  · rw [if_neg (by simp)]; simpa using hK
  · rw [if_pos rfl]; simpa using hK
end Go.Proofs.Ytpkamififbhheaa.Pure
