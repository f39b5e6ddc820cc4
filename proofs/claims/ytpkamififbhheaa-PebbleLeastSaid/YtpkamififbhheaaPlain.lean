/- Small laws on numbers, for the plain laws; and that 'awake' is true. -/
import Derived.Test.YtpkamififbhheaaPAllx1
namespace Go.Proofs.Ytpkamififbhheaa.Pure
open Go.RowKit Go.Proofs.Ytpkamififbhheaa.PAll

theorem wrap64_of {n : Int} (h : -9223372036854775808 ≤ n) (h2 : n < 9223372036854775808) : wrap64 n = n := by
  unfold wrap64; omega
theorem wf64 {a : Int} : (Lit.int .i64 a).wf = true ↔ -9223372036854775808 ≤ a ∧ a < 9223372036854775808 := by
  simp only [Lit.wf, IntKind.min, IntKind.max, IntKind.signed, IntKind.bits, Bool.and_eq_true, decide_eq_true_eq, if_true]
  omega
theorem wf8 {a : Int} : (Lit.int .u8 a).wf = true ↔ 0 ≤ a ∧ a < 256 := by
  simp only [Lit.wf, IntKind.min, IntKind.max, IntKind.signed, IntKind.bits, Bool.and_eq_true, decide_eq_true_eq, Bool.false_eq_true, if_false]
  omega
theorem wf16 {a : Int} : (Lit.int .u16 a).wf = true ↔ 0 ≤ a ∧ a < 65536 := by
  simp only [Lit.wf, IntKind.min, IntKind.max, IntKind.signed, IntKind.bits, Bool.and_eq_true, decide_eq_true_eq, Bool.false_eq_true, if_false]
  omega
theorem tmod_fin {a : Int} (h : 0 ≤ a) (n : Nat) (hn : 0 < n) : ∃ r : Fin n, Int.tmod a n = (r.1 : Int) := by
  have h1 := Int.tmod_nonneg (n : Int) h
  have h2 := Int.tmod_lt_of_pos a (show (0 : Int) < n by omega)
  exact ⟨⟨(Int.tmod a n).toNat, by omega⟩, by simp; omega⟩
theorem awake_ok : backsteplaw44_awake.f 200 = some true := by decide +kernel

end Go.Proofs.Ytpkamififbhheaa.Pure
