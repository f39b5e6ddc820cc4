/- Plain laws: small, Equal and the reference's Equal (written by wip/genplains.py out of Plain, Plain2, Plain3). -/
import Derived.Test.YtjphfhmkpknfaaaPAllx6
import Derived.Test.YtjphfhmkpknfaaaPAllx9
import Derived.Test.YtjphfhmkpknfaaaPAllx10
import Derived.Test.YtjphfhmkpknfaaaPAllx13
import Derived.Test.YtjphfhmkpknfaaaPAllx14
set_option linter.unusedVariables false
set_option linter.unusedSimpArgs false
namespace Go.Proofs.Ytjphfhmkpknfaaa.PureS
open Go.RowKit Go.Proofs.Ytjphfhmkpknfaaa.PAll Go.Proofs.YtjphfhmkpknfaaaW.PrintWords Go.Proofs.YtjphfhmkpknfaaaW.PrintLast Go.Proofs.YtjphfhmkpknfaaaW.PrintMore

theorem wrap64_of {n : Int} (h : -9223372036854775808 ≤ n) (h2 : n < 9223372036854775808) : wrap64 n = n := by
  unfold wrap64; omega
theorem wf64 {a : Int} : (Lit.int .i64 a).wf = true ↔ -9223372036854775808 ≤ a ∧ a < 9223372036854775808 := by
  simp only [Lit.wf, IntKind.min, IntKind.max, IntKind.signed, IntKind.bits, Bool.and_eq_true, decide_eq_true_eq, if_true]
  omega
theorem upto {α : Type} {g : Nat → Option α} (hm : ∀ k, LeO (g k) (g (k + 1))) {k k' : Nat} {r : α} (h : g k = some r) (hk : k ≤ k') : g k' = some r := by
  obtain ⟨d, rfl⟩ := Nat.le.dest hk
  clear hk
  induction d with
  | zero => exact h
  | succ d ih => exact hm (k + d) r ih
theorem awake_ok : backsteplaw10_awake.f 300 = some true := by decide +kernel
theorem rdT_of {l : List S44} {i : Nat} (h : i < l.length) : rd_T44 l (i : Int) = l[i] := by
  unfold rd_T44; simp [h]
theorem rdL_of {l : List (List Int)} {i : Nat} (h : i < l.length) : rd_L1 l (i : Int) = l[i] := by
  unfold rd_L1; simp [h]
theorem rd_of {l : List Int} {i : Nat} (h : i < l.length) : rd l (i : Int) = l[i] := by
  unfold rd; simp [h]
theorem next_i {i : Nat} (h : i ≤ 1152921504606846976) : wrap64 ((i : Int) + 1) = ((i + 1 : Nat) : Int) := by rw [wrap64_of (by omega) (by omega)]; omega
theorem ints_l0 (a b : List Int) (hl : a.length ≤ 1000000) (he : a.length = b.length) : ∀ (r i : Nat), r + i = a.length → backstepref10_Ints.l0 (r + 1) a b (i : Int) = some (decide (a.drop i = b.drop i))
  | 0, i, h => by
    unfold backstepref10_Ints.l0
    rw [if_neg (by omega), List.drop_eq_nil_of_le (by omega), List.drop_eq_nil_of_le (by omega)]; simp
  | r + 1, i, h => by
    have hi : i < a.length := by omega
    have hi2 : i < b.length := by omega
    have e1 : a.drop i = a[i] :: a.drop (i + 1) := List.drop_eq_getElem_cons hi
    have e2 : b.drop i = b[i] :: b.drop (i + 1) := List.drop_eq_getElem_cons hi2
    have ih := ints_l0 a b hl he r (i + 1) (by omega)
    rw [e1, e2]
    unfold backstepref10_Ints.l0
    rw [if_pos (by omega), if_pos (by omega), if_pos (by omega), rd_of hi, rd_of hi2, next_i (by omega), ih]
    by_cases c : a[i] = b[i]
    · rw [if_pos c]
      exact congrArg some (decide_eq_decide.2 ⟨fun h => by rw [c, h], fun h => (List.cons.inj h).2⟩)
    · rw [if_neg c]
      exact congrArg some (decide_eq_false (fun h => c (List.cons.inj h).1)).symm
theorem ints_f (a b : List Int) (hl : a.length ≤ 1000000) : backstepref10_Ints.f (a.length + 1) a b = some (decide (a = b)) := by
  unfold backstepref10_Ints.f
  by_cases c : (a.length : Int) = (b.length : Int)
  · rw [if_pos c]
    simpa using ints_l0 a b hl (by omega) a.length 0 (by omega)
  · rw [if_neg c, decide_eq_false]
    rintro rfl; exact c rfl
def smallP (cs : List (List Int)) (a b : List Int) : Prop := cs.length ≤ 40 ∧ a.length ≤ 60 ∧ b.length ≤ 60 ∧ ∀ r ∈ cs, r.length ≤ 60
instance (cs : List (List Int)) (a b : List Int) : Decidable (smallP cs a b) := by unfold smallP; infer_instance
theorem small_l0 (cs : List (List Int)) (a b : List Int) (hc : cs.length ≤ 40) : ∀ (r i : Nat), r + i = cs.length → backsteplaw10_small.l0 (r + 1) (i : Int) cs a b = some (if ∀ x ∈ cs.drop i, x.length ≤ 60 then 1 else 0)
  | 0, i, h => by
    unfold backsteplaw10_small.l0
    rw [if_neg (by omega), List.drop_eq_nil_of_le (by omega)]; simp
  | r + 1, i, h => by
    have hi : i < cs.length := by omega
    have ed : cs.drop i = cs[i] :: cs.drop (i + 1) := List.drop_eq_getElem_cons hi
    have ih := small_l0 cs a b hc r (i + 1) (by omega)
    rw [ed]
    unfold backsteplaw10_small.l0
    rw [if_pos (by omega), if_pos (by omega), rdL_of hi, next_i (by omega), ih]
    by_cases c : (cs[i].length : Int) > 60
    · rw [if_pos c, if_neg]
      intro h'
      have := h' cs[i] List.mem_cons_self
      omega
    · rw [if_neg c]
      congr 1
      have : (∀ x ∈ cs.drop (i + 1), x.length ≤ 60) ↔ (∀ x ∈ cs[i] :: cs.drop (i + 1), x.length ≤ 60) := by
        constructor
        · intro h' x hx
          rcases List.mem_cons.1 hx with rfl | hx
          · omega
          · exact h' x hx
        · exact fun h' x hx => h' x (List.mem_cons_of_mem _ hx)
      simp only [this]
theorem small_f (cs : List (List Int)) (a b : List Int) : ∃ K, backsteplaw10_small.f K cs a b = some (if smallP cs a b then 1 else 0) := by
  have jt : ∀ k, backsteplaw10_small.j0 (k + 1) true cs a b = some 0 := fun k => by rw [backsteplaw10_small.j0, if_pos rfl]
  by_cases c1 : (cs.length : Int) > 40
  · refine ⟨1, ?_⟩
    unfold backsteplaw10_small.f
    rw [if_pos c1, if_neg (fun h => by have := h.1; omega)]
    exact jt 0
  · by_cases c2 : (a.length : Int) > 60
    · refine ⟨1, ?_⟩
      unfold backsteplaw10_small.f
      rw [if_neg c1, if_pos c2, if_neg (fun h => by have := h.2.1; omega)]
      exact jt 0
    · by_cases c3 : (b.length : Int) > 60
      · refine ⟨1, ?_⟩
        unfold backsteplaw10_small.f
        rw [if_neg c1, if_neg c2, decide_eq_true c3, if_neg (fun h => by have := h.2.2.1; omega)]
        exact jt 0
      · have h0 := small_l0 cs a b (by omega) cs.length 0 (by omega)
        obtain ⟨K, hK⟩ : ∃ K, K = cs.length + 1 := ⟨_, rfl⟩
        rw [← hK] at h0
        refine ⟨K + 1, ?_⟩
        unfold backsteplaw10_small.f
        rw [if_neg c1, if_neg c2, decide_eq_false c3, backsteplaw10_small.j0, if_neg (by simp)]
        have e : (smallP cs a b) ↔ (∀ x ∈ cs.drop 0, x.length ≤ 60) := by
          unfold smallP
          rw [List.drop_zero]
          exact ⟨fun h => h.2.2.2, fun h => ⟨by omega, by omega, by omega, h⟩⟩
        simp only [e]
        exact h0
theorem eq_l0 (a b : List Int) (hl : a.length ≤ 1000000) (he : a.length = b.length) : ∀ (r i : Nat), r + i = a.length → slices_Equal_int_int.l0 (r + 1) a b (a.length : Int) (i : Int) = some (decide (a.drop i = b.drop i))
  | 0, i, h => by
    unfold slices_Equal_int_int.l0
    rw [if_neg (by omega), List.drop_eq_nil_of_le (by omega), List.drop_eq_nil_of_le (by omega)]; simp
  | r + 1, i, h => by
    have hi : i < a.length := by omega
    have hi2 : i < b.length := by omega
    have e1 : a.drop i = a[i] :: a.drop (i + 1) := List.drop_eq_getElem_cons hi
    have e2 : b.drop i = b[i] :: b.drop (i + 1) := List.drop_eq_getElem_cons hi2
    have ih := eq_l0 a b hl he r (i + 1) (by omega)
    rw [e1, e2]
    unfold slices_Equal_int_int.l0
    rw [if_pos (by omega), if_pos (by omega), if_pos (by omega), if_pos (by omega), rd_of hi, rd_of hi2, next_i (by omega), ih]
    by_cases c : a[i] = b[i]
    · rw [if_pos c]
      exact congrArg some (decide_eq_decide.2 ⟨fun h => by rw [c, h], fun h => (List.cons.inj h).2⟩)
    · rw [if_neg c]
      exact congrArg some (decide_eq_false (fun h => c (List.cons.inj h).1)).symm
theorem eq_f (a b : List Int) (hl : a.length ≤ 1000000) : slices_Equal_int_int.f (a.length + 1) a b = some (decide (a = b)) := by
  unfold slices_Equal_int_int.f
  by_cases c : (a.length : Int) = (b.length : Int)
  · rw [if_pos c]
    simpa using eq_l0 a b hl (by omega) a.length 0 (by omega)
  · rw [if_neg c, decide_eq_false]
    rintro rfl; exact c rfl
theorem eqf_l0 (a b : List (List Int)) (hl : a.length ≤ 1000000) (hr : ∀ x ∈ a, x.length ≤ 1000) (he : a.length = b.length) : ∀ (r i : Nat), r + i = a.length → slices_EqualFunc_int_int_int_int.l0 (r + 1002) b a (a.length : Int) (i : Int) = some (decide (a.drop i = b.drop i))
  | 0, i, h => by
    obtain ⟨z, hz⟩ : ∃ z, 0 + 1002 = z + 1 := ⟨1001, rfl⟩
    rw [hz]
    unfold slices_EqualFunc_int_int_int_int.l0
    rw [if_neg (by omega), List.drop_eq_nil_of_le (by omega), List.drop_eq_nil_of_le (by omega)]; simp
  | r + 1, i, h => by
    have hi : i < a.length := by omega
    have hi2 : i < b.length := by omega
    have e1 : a.drop i = a[i] :: a.drop (i + 1) := List.drop_eq_getElem_cons hi
    have e2 : b.drop i = b[i] :: b.drop (i + 1) := List.drop_eq_getElem_cons hi2
    have ih := eqf_l0 a b hl hr he r (i + 1) (by omega)
    have hm := hr a[i] (List.getElem_mem hi)
    have hq := upto (fun k => slices_Equal_int_int.mono a[i] b[i] k) (eq_f a[i] b[i] (by omega)) (show a[i].length + 1 ≤ r + 1002 by omega)
    rw [e1, e2, show r + 1 + 1002 = (r + 1002) + 1 by omega]
    unfold slices_EqualFunc_int_int_int_int.l0
    rw [if_pos (by omega), if_pos (by omega), if_pos (by omega), if_pos (by omega), rdL_of hi, rdL_of hi2, hq, Option.bind_some, next_i (by omega), ih]
    by_cases c : a[i] = b[i]
    · rw [if_pos (decide_eq_true c)]
      exact congrArg some (decide_eq_decide.2 ⟨fun h => by rw [c, h], fun h => (List.cons.inj h).2⟩)
    · rw [if_neg (by rw [decide_eq_false c]; simp)]
      exact congrArg some (decide_eq_false (fun h => c (List.cons.inj h).1)).symm
theorem eqf_f (a b : List (List Int)) (hl : a.length ≤ 1000000) (hr : ∀ x ∈ a, x.length ≤ 1000) : slices_EqualFunc_int_int_int_int.f (a.length + 1002) a b = some (decide (a = b)) := by
  unfold slices_EqualFunc_int_int_int_int.f
  by_cases c : (a.length : Int) = (b.length : Int)
  · rw [if_pos c]
    simpa using eqf_l0 a b hl hr (by omega) a.length 0 (by omega)
  · rw [if_neg c, decide_eq_false]
    rintro rfl; exact c rfl
def sameP (a : List (List Int)) (i o : List Int) (b : List (List Int)) (i' o' : List Int) : Bool := decide (a = b) && decide (i = i') && decide (o = o')
theorem equal_f (a : List (List Int)) (i o : List Int) (b : List (List Int)) (i' o' : List Int) (hl : a.length ≤ 1000) (hr : ∀ x ∈ a, x.length ≤ 1000) (h1 : i.length ≤ 1000) (h2 : o.length ≤ 1000) :
    state_Equal.f 2100 a i o b i' o' = some (sameP a i o b i' o') := by
  have q0 := upto (fun k => slices_EqualFunc_int_int_int_int.mono a b k) (eqf_f a b (by omega) hr) (show _ ≤ 2100 by omega)
  have q1 := upto (fun k => slices_Equal_int_int.mono i i' k) (eq_f i i' (by omega)) (show _ ≤ 2100 by omega)
  have q2 := upto (fun k => slices_Equal_int_int.mono o o' k) (eq_f o o' (by omega)) (show _ ≤ 2100 by omega)
  unfold state_Equal.f sameP
  rw [q0, Option.bind_some]
  by_cases c0 : a = b
  · rw [if_pos (decide_eq_true c0), decide_eq_true c0, q1, Option.bind_some]
    by_cases c1 : i = i'
    · rw [if_pos (decide_eq_true c1), decide_eq_true c1, q2]; simp
    · rw [if_neg (by rw [decide_eq_false c1]; simp), decide_eq_false c1]; simp
  · rw [if_neg (by rw [decide_eq_false c0]; simp), decide_eq_false c0]; simp
theorem refeq_l0 (a : List (List Int)) (i o : List Int) (b : List (List Int)) (i' o' : List Int) (hl : a.length ≤ 1000) (hr : ∀ x ∈ a, x.length ≤ 1000) (he : a.length = b.length) : ∀ (r j : Nat), r + j = a.length → backstepref10_Equal.l0 (r + 1002) (j : Int) a i o b i' o' = some (decide (a.drop j = b.drop j))
  | 0, j, h => by
    obtain ⟨z, hz⟩ : ∃ z, 0 + 1002 = z + 1 := ⟨1001, rfl⟩
    rw [hz]
    unfold backstepref10_Equal.l0
    rw [if_neg (by omega), List.drop_eq_nil_of_le (by omega), List.drop_eq_nil_of_le (by omega)]; simp
  | r + 1, j, h => by
    have hi : j < a.length := by omega
    have hi2 : j < b.length := by omega
    have e1 : a.drop j = a[j] :: a.drop (j + 1) := List.drop_eq_getElem_cons hi
    have e2 : b.drop j = b[j] :: b.drop (j + 1) := List.drop_eq_getElem_cons hi2
    have ih := refeq_l0 a i o b i' o' hl hr he r (j + 1) (by omega)
    have hm := hr a[j] (List.getElem_mem hi)
    have hq := upto (fun k => backstepref10_Ints.mono a[j] b[j] k) (ints_f a[j] b[j] (by omega)) (show a[j].length + 1 ≤ r + 1002 by omega)
    rw [e1, e2, show r + 1 + 1002 = (r + 1002) + 1 by omega]
    unfold backstepref10_Equal.l0
    rw [if_pos (by omega), if_pos (by omega), if_pos (by omega), rdL_of hi, rdL_of hi2, hq, Option.bind_some, next_i (by omega), ih]
    by_cases c : a[j] = b[j]
    · rw [if_pos (decide_eq_true c)]
      exact congrArg some (decide_eq_decide.2 ⟨fun h => by rw [c, h], fun h => (List.cons.inj h).2⟩)
    · rw [if_neg (by rw [decide_eq_false c]; simp)]
      exact congrArg some (decide_eq_false (fun h => c (List.cons.inj h).1)).symm
theorem refequal_f (a : List (List Int)) (i o : List Int) (b : List (List Int)) (i' o' : List Int) (hl : a.length ≤ 1000) (hr : ∀ x ∈ a, x.length ≤ 1000) (h1 : i.length ≤ 1000) (h2 : o.length ≤ 1000) :
    backstepref10_Equal.f 2100 a i o b i' o' = some (sameP a i o b i' o') := by
  have q1 := upto (fun k => backstepref10_Ints.mono i i' k) (ints_f i i' (by omega)) (show _ ≤ 2100 by omega)
  have q2 := upto (fun k => backstepref10_Ints.mono o o' k) (ints_f o o' (by omega)) (show _ ≤ 2100 by omega)
  have jt : backstepref10_Equal.j0 2100 true a i o b i' o' = some false := by
    obtain ⟨z, hz⟩ : ∃ z, 2100 = z + 1 := ⟨2099, rfl⟩
    rw [hz, backstepref10_Equal.j0, if_pos rfl]
  unfold backstepref10_Equal.f sameP
  by_cases c0 : (a.length : Int) = (b.length : Int)
  · rw [if_pos c0, q1, Option.bind_some]
    by_cases c1 : i = i'
    · rw [if_pos (decide_eq_true c1), decide_eq_true c1, q2, Option.bind_some]
      by_cases c2 : o = o'
      · have h3 := refeq_l0 a i o b i' o' hl hr (by omega) a.length 0 (by omega)
        obtain ⟨z, hz⟩ : ∃ z, 2100 = z + 1 := ⟨2099, rfl⟩
        have h4 := upto (fun k => (backstepref10_Equal.mono_l k).2 0 a i o b i' o') h3 (show a.length + 1002 ≤ z by omega)
        rw [decide_eq_true c2, hz, backstepref10_Equal.j0, if_neg (by simp), h4]; simp
      · rw [decide_eq_false c2]
        simp only [Bool.not_false, Bool.and_false]; exact jt
    · rw [if_neg (by rw [decide_eq_false c1]; simp), decide_eq_false c1]
      simp only [Bool.and_false, Bool.false_and]; exact jt
  · rw [if_neg c0, decide_eq_false (show ¬ a = b by rintro rfl; exact c0 rfl)]
    simp only [Bool.false_and]; exact jt
end Go.Proofs.Ytjphfhmkpknfaaa.PureS
