/- StateFits' plain law. -/
import Derived.Test.YtjphfhmkpknfaaaPAllx15
import Derived.Test.YtjphfhmkpknfaaaPlain3
set_option linter.unusedVariables false
set_option linter.unusedSimpArgs false
namespace Go.Proofs.Ytjphfhmkpknfaaa.Pure
open Go.RowKit Go.Proofs.Ytjphfhmkpknfaaa.PAll Go.Proofs.YtjphfhmkpknfaaaW.PrintWords Go.Proofs.YtjphfhmkpknfaaaW.PrintLast Go.Proofs.YtjphfhmkpknfaaaW.PrintMore

theorem sameP_comm (a : List (List Int)) (i o : List Int) (b : List (List Int)) (i' o' : List Int) : sameP a i o b i' o' = sameP b i' o' a i o := by
  unfold sameP
  rw [Bool.eq_iff_iff]
  simp only [Bool.and_eq_true, decide_eq_true_eq]
  exact ⟨fun h => ⟨⟨h.1.1.symm, h.1.2.symm⟩, h.2.symm⟩, fun h => ⟨⟨h.1.1.symm, h.1.2.symm⟩, h.2.symm⟩⟩
theorem sameP_self (a : List (List Int)) (i o : List Int) : sameP a i o a i o = true := by simp [sameP]
theorem StateFits (l : List S44) (a : List (List Int)) (i o : List Int) (b : List (List Int)) (i' o' : List Int) : ∃ k, backsteplaw10_StateFits.f k l a i o b i' o' = some true := by
  obtain ⟨K1, hK1⟩ := small_f a i o
  obtain ⟨K2, hK2⟩ := small_f b i' o'
  obtain ⟨K, hK⟩ : ∃ K, K = K1 + K2 + 2 * l.length + 3000 := ⟨_, rfl⟩
  have jt : backsteplaw10_StateFits.j0 (K + 1) l true a i o b i' o' = some true := by rw [backsteplaw10_StateFits.j0, if_pos rfl]
  have jf : l.length ≤ 40 → smallP a i o → smallP b i' o' → backsteplaw10_StateFits.j0 (K + 1) l false a i o b i' o' = some true := by
    intro hl ha hb
    obtain ⟨ha1, ha2, ha3, ha4⟩ := ha
    obtain ⟨hb1, hb2, hb3, hb4⟩ := hb
    have q1 := upto (fun k => state_Fits.mono l a i o k) (fits_f l a i o (by omega)) (show _ ≤ K by omega)
    have q2 := upto (fun k => backstepref10_Fits.mono l a i o k) (reffits_f l a i o (by omega)) (show _ ≤ K by omega)
    have q3 := upto (fun k => state_Equal.mono a i o b i' o' k) (equal_f a i o b i' o' (by omega) (fun x hx => by have := ha4 x hx; omega) (by omega) (by omega)) (show _ ≤ K by omega)
    have q4 := upto (fun k => backstepref10_Equal.mono a i o b i' o' k) (refequal_f a i o b i' o' (by omega) (fun x hx => by have := ha4 x hx; omega) (by omega) (by omega)) (show _ ≤ K by omega)
    have q5 := upto (fun k => state_Equal.mono b i' o' a i o k) (equal_f b i' o' a i o (by omega) (fun x hx => by have := hb4 x hx; omega) (by omega) (by omega)) (show _ ≤ K by omega)
    have q6 := upto (fun k => state_Equal.mono a i o a i o k) (equal_f a i o a i o (by omega) (fun x hx => by have := ha4 x hx; omega) (by omega) (by omega)) (show _ ≤ K by omega)
    rw [backsteplaw10_StateFits.j0, if_neg (by simp), q1, Option.bind_some, q2, Option.bind_some, if_pos (by simp), q3, Option.bind_some, q4, Option.bind_some, if_pos (by simp), q5, Option.bind_some]
    simp only [Option.bind_some]
    rw [sameP_comm b i' o' a i o, if_pos (by simp), q6, sameP_self]; rfl
  refine ⟨K + 1, ?_⟩
  have ha := upto (fun k => backsteplaw10_awake.mono k) awake_ok (show 300 ≤ K + 1 by omega)
  have s1 := upto (fun k => backsteplaw10_small.mono a i o k) hK1 (show K1 ≤ K + 1 by omega)
  have s2 := upto (fun k => backsteplaw10_small.mono b i' o' k) hK2 (show K2 ≤ K + 1 by omega)
  unfold backsteplaw10_StateFits.f
  rw [ha, Option.bind_some, if_pos rfl]
  by_cases c : (l.length : Int) > 40
  · rw [if_pos c]; exact jt
  · rw [if_neg c, s1, Option.bind_some]
    by_cases c1 : smallP a i o
    · rw [if_pos c1, if_neg (by omega), s2, Option.bind_some]
      by_cases c2 : smallP b i' o'
      · rw [if_pos c2]
        exact jf (by omega) c1 c2
      · rw [if_neg c2]; exact jt
    · rw [if_neg c1, if_pos rfl]; exact jt
end Go.Proofs.Ytjphfhmkpknfaaa.Pure
