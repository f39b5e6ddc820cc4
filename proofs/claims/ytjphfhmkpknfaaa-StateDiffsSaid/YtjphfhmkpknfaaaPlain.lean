/- Plain laws of chapter 10's functions: valid, Fits, New, and the reference's. -/
import Derived.Test.YtjphfhmkpknfaaaPAllx3
import Derived.Test.YtjphfhmkpknfaaaPAllx6
import Derived.Test.YtjphfhmkpknfaaaPAllx11
set_option linter.unusedVariables false
set_option linter.unusedSimpArgs false
namespace Go.Proofs.Ytjphfhmkpknfaaa.Pure
open Go.RowKit Go.Proofs.Ytjphfhmkpknfaaa.PAll Go.Proofs.YtjphfhmkpknfaaaW.PrintWords Go.Proofs.YtjphfhmkpknfaaaW.PrintLast Go.Proofs.YtjphfhmkpknfaaaW.PrintMore

theorem wrap64_of {n : Int} (h : -9223372036854775808 ≤ n) (h2 : n < 9223372036854775808) : wrap64 n = n := by
  unfold wrap64; omega
theorem wf64 {a : Int} : (Lit.int .i64 a).wf = true ↔ -9223372036854775808 ≤ a ∧ a < 9223372036854775808 := by
  simp only [Lit.wf, IntKind.min, IntKind.max, IntKind.signed, IntKind.bits, Bool.and_eq_true, decide_eq_true_eq, if_true]
  omega
theorem upto {α : Type} {g : Nat → Option α} (hm : ∀ k, LeO (g k) (g (k + 1))) {k k' : Nat} {r : α} (h : g k = some r) (hk : k ≤ k') : g k' = some r := by
  obtain ⟨d, rfl⟩ := Nat.le.dest hk
  clear hk
  induction d with
  | zero => exact h
  | succ d ih => exact hm (k + d) r ih
theorem awake_ok : backsteplaw10_awake.f 300 = some true := by decide +kernel
theorem rdT_of {l : List S44} {i : Nat} (h : i < l.length) : rd_T44 l (i : Int) = l[i] := by
  unfold rd_T44; simp [h]
theorem rdL_of {l : List (List Int)} {i : Nat} (h : i < l.length) : rd_L1 l (i : Int) = l[i] := by
  unfold rd_L1; simp [h]
theorem rd_of {l : List Int} {i : Nat} (h : i < l.length) : rd l (i : Int) = l[i] := by
  unfold rd; simp [h]
theorem next_i {i : Nat} (h : i ≤ 1152921504606846976) : wrap64 ((i : Int) + 1) = ((i + 1 : Nat) : Int) := by rw [wrap64_of (by omega) (by omega)]; omega

def okVar (v : S44) : Bool := (decide (v.f1 = 2) && decide (1 ≤ v.f2) && decide (v.f2 ≤ 16)) || ((decide (v.f1 = 1) || decide (v.f1 = 3)) && decide (v.f2 = 0))
def validP (l : List S44) : Bool := l.all okVar && decide ((l.length : Int) ≤ 32)
theorem valid_l0 (l : List S44) (hl : l.length ≤ 1000000) : ∀ (r i : Nat), r + i = l.length → state_valid.l0 (2 * r + 1) l l (l.length : Int) (i : Int) = some ((l.drop i).all okVar && decide ((l.length : Int) ≤ 32))
  | 0, i, h => by
    unfold state_valid.l0
    rw [if_neg (by omega), List.drop_eq_nil_of_le (by omega)]; simp
  | r + 1, i, h => by
    have hi : i < l.length := by omega
    have ed : l.drop i = l[i] :: l.drop (i + 1) := List.drop_eq_getElem_cons hi
    have ih := valid_l0 l hl r (i + 1) (by omega)
    have hn := next_i (i := i) (by omega)
    have key : ∀ b : Bool, b = (decide (l[i].f1 = 2) && decide (1 ≤ l[i].f2) && decide (l[i].f2 ≤ 16)) → state_valid.j1 (2 * r + 1 + 1) l l (l.length : Int) (i : Int) b l[i].f0 l[i].f1 l[i].f2 = some (((l[i] :: l.drop (i + 1)).all okVar) && decide ((l.length : Int) ≤ 32)) := by
      intro b hb
      obtain ⟨z, hz⟩ : ∃ z, z = 2 * r + 1 := ⟨_, rfl⟩
      rw [← hz] at ih ⊢
      unfold state_valid.j1
      rw [hn, ih]
      simp only [List.all_cons]
      unfold okVar
      rw [← hb]
      by_cases hb1 : b = true
      · rw [if_pos hb1, hb1]; simp
      · rw [if_neg hb1]
        have hb0 : b = false := by simpa using hb1
        rw [hb0]
        by_cases c1 : l[i].f1 = 1
        · rw [if_pos c1]
          by_cases c2 : l[i].f2 = 0
          · rw [if_pos c2, decide_eq_true c1, decide_eq_true c2]; simp
          · rw [if_neg c2, decide_eq_false c2]; simp
        · rw [if_neg c1]
          by_cases c3 : l[i].f1 = 3
          · rw [if_pos c3]
            by_cases c2 : l[i].f2 = 0
            · rw [if_pos c2, decide_eq_true c3, decide_eq_true c2]; simp
            · rw [if_neg c2, decide_eq_false c2]; simp
          · rw [if_neg c3, decide_eq_false c1, decide_eq_false c3]; simp
    have e2 : 2 * (r + 1) + 1 = 2 * r + 1 + 1 + 1 := by omega
    obtain ⟨z, hz⟩ : ∃ z, z = 2 * r + 1 + 1 := ⟨_, rfl⟩
    rw [← hz] at key
    rw [e2, ed, ← hz]
    unfold state_valid.l0
    rw [if_pos (by omega), if_pos (by omega), if_pos (by omega), rdT_of hi]
    by_cases c1 : l[i].f1 = 2
    · rw [if_pos c1]
      by_cases c2 : l[i].f2 ≥ 1
      · rw [if_pos c2]
        exact key _ (by rw [decide_eq_true c1, decide_eq_true (show 1 ≤ l[i].f2 from c2)]; simp)
      · rw [if_neg c2]
        exact key _ (by rw [decide_eq_false (show ¬ 1 ≤ l[i].f2 from c2)]; simp)
    · rw [if_neg c1]
      exact key _ (by rw [decide_eq_false c1]; simp)
theorem valid_f (l : List S44) (hl : l.length ≤ 1000000) : state_valid.f (2 * l.length + 1) l = some (validP l) := by
  unfold state_valid.f
  simpa [validP] using valid_l0 l hl l.length 0 (by omega)
theorem refvalid_l0 (l : List S44) (hl : l.length ≤ 1000000) : ∀ (r i : Nat), r + i = l.length → backstepref10_Valid.l0 (r + 1) l (i : Int) = some ((l.drop i).all okVar && decide ((l.length : Int) ≤ 32))
  | 0, i, h => by
    unfold backstepref10_Valid.l0
    rw [if_neg (by omega), List.drop_eq_nil_of_le (by omega)]; simp
  | r + 1, i, h => by
    have hi : i < l.length := by omega
    have ed : l.drop i = l[i] :: l.drop (i + 1) := List.drop_eq_getElem_cons hi
    have ih := refvalid_l0 l hl r (i + 1) (by omega)
    have hn := next_i (i := i) (by omega)
    rw [ed]
    unfold backstepref10_Valid.l0
    rw [if_pos (by omega), if_pos (by omega), rdT_of hi, hn, ih]
    simp only [List.all_cons]
    unfold okVar
    by_cases c1 : l[i].f1 = 1
    · have c2 : ¬ l[i].f1 = 2 := by omega
      have c3 : ¬ l[i].f1 = 3 := by omega
      rw [if_pos c1, if_neg c2, decide_eq_true c1, decide_eq_false c2]
      by_cases c4 : l[i].f2 = 0
      · rw [if_pos c4, decide_eq_true c4]; simp
      · rw [if_neg c4, decide_eq_false c4]; simp
    · rw [if_neg c1]
      by_cases c3 : l[i].f1 = 3
      · have c2 : ¬ l[i].f1 = 2 := by omega
        rw [if_pos c3, if_neg c2, decide_eq_true c3, decide_eq_false c2]
        by_cases c4 : l[i].f2 = 0
        · rw [if_pos c4, decide_eq_true c4]; simp
        · rw [if_neg c4, decide_eq_false c4]; simp
      · rw [if_neg c3, decide_eq_false c1, decide_eq_false c3]
        by_cases c2 : l[i].f1 = 2
        · rw [if_pos c2, decide_eq_true c2]
          by_cases c4 : l[i].f2 ≥ 1
          · rw [if_pos c4, decide_eq_true (show 1 ≤ l[i].f2 from c4)]
            by_cases c5 : l[i].f2 ≤ 16
            · rw [if_pos c5, decide_eq_true c5]; simp
            · rw [if_neg c5, decide_eq_false c5]; simp
          · rw [if_neg c4, decide_eq_false (show ¬ 1 ≤ l[i].f2 from c4)]; simp
        · rw [if_neg c2, decide_eq_false c2]; simp
theorem refvalid_f (l : List S44) (hl : l.length ≤ 1000000) : backstepref10_Valid.f (l.length + 1) l = some (validP l) := by
  unfold backstepref10_Valid.f
  simpa [validP] using refvalid_l0 l hl l.length 0 (by omega)
end Go.Proofs.Ytjphfhmkpknfaaa.Pure
