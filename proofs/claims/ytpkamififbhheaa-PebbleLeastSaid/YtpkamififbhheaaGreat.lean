/- The law's own test 'great'. -/
import Derived.Test.YtpkamififbhheaaPAllx4
import Derived.Test.YtpkamififbhheaaMon
namespace Go.Proofs.Ytpkamififbhheaa.Pure
open Go.RowKit Go.Proofs.Ytpkamififbhheaa.PAll Go.Proofs.YtpkamififbhheaaW.PrintWords Go.Proofs.YtpkamififbhheaaW.PrintLast

theorem great_l0 (l : List Int) (hl : l.length ≤ 1152921504606846976) : ∀ (r i : Nat), r + i = l.length →
    ∃ b, backsteplaw44_great.l0 (r + 1) l l (l.length : Int) (i : Int) = some b ∧ (b = false → l.length ≤ 600 ∧ ∀ x ∈ l.drop i, -2147483648 ≤ x ∧ x ≤ 2147483648)
  | 0, i, h => by
    refine ⟨decide ((l.length : Int) > 600), ?_, fun hb => ⟨by have := of_decide_eq_false hb; omega, ?_⟩⟩
    · unfold backsteplaw44_great.l0; rw [if_neg (by omega)]
    · rw [List.drop_eq_nil_of_le (by omega)]; simp
  | r + 1, i, h => by
    have hi : i < l.length := by omega
    have hr := rd_of hi
    have hw : wrap64 ((i : Int) + 1) = ((i + 1 : Nat) : Int) := by rw [wrap64_of (by omega) (by omega)]; omega
    obtain ⟨b, hb, hb2⟩ := great_l0 l hl r (i + 1) (by omega)
    unfold backsteplaw44_great.l0
    rw [if_pos (by omega), if_pos (by omega), if_pos (by omega), hr, hw]
    by_cases c1 : l[i] > 2147483648
    · exact ⟨true, by rw [if_pos c1], by simp⟩
    · rw [if_neg c1]
      by_cases c2 : l[i] < -2147483648
      · exact ⟨true, by rw [if_pos c2], by simp⟩
      · rw [if_neg c2]
        refine ⟨b, hb, fun h0 => ⟨(hb2 h0).1, ?_⟩⟩
        rw [List.drop_eq_getElem_cons hi]
        intro x hx
        rcases List.mem_cons.1 hx with rfl | hx
        · omega
        · exact (hb2 h0).2 x hx
theorem great_cases (l : List Int) (hl : l.length ≤ 1152921504606846976) :
    ∃ K b, backsteplaw44_great.f K l = some b ∧ (b = false → l.length ≤ 600 ∧ ∀ x ∈ l, -2147483648 ≤ x ∧ x ≤ 2147483648) := by
  obtain ⟨b, h1, h2⟩ := great_l0 l hl l.length 0 (by omega)
  exact ⟨l.length + 1, b, h1, h2⟩
end Go.Proofs.Ytpkamififbhheaa.Pure
