/- Plain laws (written by wip/genslim.py out of Plain, Plain2, Plain3, PlainE, PlainF, PlainG). -/
import Derived.Test.YtjphfhmkpknfaaaPAllx5
import Derived.Test.YtjphfhmkpknfaaaPAllx6
import Derived.Test.YtjphfhmkpknfaaaPAllx9
import Derived.Test.YtjphfhmkpknfaaaPAllx10
import Derived.Test.YtjphfhmkpknfaaaPAllx11
import Derived.Test.YtjphfhmkpknfaaaPAllx13
import Derived.Test.YtjphfhmkpknfaaaPAllx21
import Derived.Test.YtjphfhmkpknfaaaPAllx22
import Derived.Test.YtjphfhmkpknfaaaDec
set_option linter.unusedVariables false
set_option linter.unusedSimpArgs false
namespace Go.Proofs.Ytjphfhmkpknfaaa.PureE
open Go.RowKit Go.Proofs.Ytjphfhmkpknfaaa.PAll Go.Proofs.YtjphfhmkpknfaaaW.PrintWords Go.Proofs.YtjphfhmkpknfaaaW.PrintLast Go.Proofs.YtjphfhmkpknfaaaW.PrintMore

theorem wrap64_of {n : Int} (h : -9223372036854775808 ≤ n) (h2 : n < 9223372036854775808) : wrap64 n = n := by
  unfold wrap64; omega
theorem wf64 {a : Int} : (Lit.int .i64 a).wf = true ↔ -9223372036854775808 ≤ a ∧ a < 9223372036854775808 := by
  simp only [Lit.wf, IntKind.min, IntKind.max, IntKind.signed, IntKind.bits, Bool.and_eq_true, decide_eq_true_eq, if_true]
  omega
theorem upto {α : Type} {g : Nat → Option α} (hm : ∀ k, LeO (g k) (g (k + 1))) {k k' : Nat} {r : α} (h : g k = some r) (hk : k ≤ k') : g k' = some r := by
  obtain ⟨d, rfl⟩ := Nat.le.dest hk
  clear hk
  induction d with
  | zero => exact h
  | succ d ih => exact hm (k + d) r ih
theorem awake_ok : backsteplaw10_awake.f 300 = some true := by decide +kernel
theorem rdT_of {l : List S44} {i : Nat} (h : i < l.length) : rd_T44 l (i : Int) = l[i] := by
  unfold rd_T44; simp [h]
theorem rdL_of {l : List (List Int)} {i : Nat} (h : i < l.length) : rd_L1 l (i : Int) = l[i] := by
  unfold rd_L1; simp [h]
theorem rd_of {l : List Int} {i : Nat} (h : i < l.length) : rd l (i : Int) = l[i] := by
  unfold rd; simp [h]
theorem next_i {i : Nat} (h : i ≤ 1152921504606846976) : wrap64 ((i : Int) + 1) = ((i + 1 : Nat) : Int) := by rw [wrap64_of (by omega) (by omega)]; omega
def okVar (v : S44) : Bool := (decide (v.f1 = 2) && decide (1 ≤ v.f2) && decide (v.f2 ≤ 16)) || ((decide (v.f1 = 1) || decide (v.f1 = 3)) && decide (v.f2 = 0))
def validP (l : List S44) : Bool := l.all okVar && decide ((l.length : Int) ≤ 32)
theorem valid_l0 (l : List S44) (hl : l.length ≤ 1000000) : ∀ (r i : Nat), r + i = l.length → state_valid.l0 (2 * r + 1) l l (l.length : Int) (i : Int) = some ((l.drop i).all okVar && decide ((l.length : Int) ≤ 32))
  | 0, i, h => by
    unfold state_valid.l0
    rw [if_neg (by omega), List.drop_eq_nil_of_le (by omega)]; simp
  | r + 1, i, h => by
    have hi : i < l.length := by omega
    have ed : l.drop i = l[i] :: l.drop (i + 1) := List.drop_eq_getElem_cons hi
    have ih := valid_l0 l hl r (i + 1) (by omega)
    have hn := next_i (i := i) (by omega)
    have key : ∀ b : Bool, b = (decide (l[i].f1 = 2) && decide (1 ≤ l[i].f2) && decide (l[i].f2 ≤ 16)) → state_valid.j1 (2 * r + 1 + 1) l l (l.length : Int) (i : Int) b l[i].f0 l[i].f1 l[i].f2 = some (((l[i] :: l.drop (i + 1)).all okVar) && decide ((l.length : Int) ≤ 32)) := by
      intro b hb
      obtain ⟨z, hz⟩ : ∃ z, z = 2 * r + 1 := ⟨_, rfl⟩
      rw [← hz] at ih ⊢
      unfold state_valid.j1
      rw [hn, ih]
      simp only [List.all_cons]
      unfold okVar
      rw [← hb]
      by_cases hb1 : b = true
      · rw [if_pos hb1, hb1]; simp
      · rw [if_neg hb1]
        have hb0 : b = false := by simpa using hb1
        rw [hb0]
        by_cases c1 : l[i].f1 = 1
        · rw [if_pos c1]
          by_cases c2 : l[i].f2 = 0
          · rw [if_pos c2, decide_eq_true c1, decide_eq_true c2]; simp
          · rw [if_neg c2, decide_eq_false c2]; simp
        · rw [if_neg c1]
          by_cases c3 : l[i].f1 = 3
          · rw [if_pos c3]
            by_cases c2 : l[i].f2 = 0
            · rw [if_pos c2, decide_eq_true c3, decide_eq_true c2]; simp
            · rw [if_neg c2, decide_eq_false c2]; simp
          · rw [if_neg c3, decide_eq_false c1, decide_eq_false c3]; simp
    have e2 : 2 * (r + 1) + 1 = 2 * r + 1 + 1 + 1 := by omega
    obtain ⟨z, hz⟩ : ∃ z, z = 2 * r + 1 + 1 := ⟨_, rfl⟩
    rw [← hz] at key
    rw [e2, ed, ← hz]
    unfold state_valid.l0
    rw [if_pos (by omega), if_pos (by omega), if_pos (by omega), rdT_of hi]
    by_cases c1 : l[i].f1 = 2
    · rw [if_pos c1]
      by_cases c2 : l[i].f2 ≥ 1
      · rw [if_pos c2]
        exact key _ (by rw [decide_eq_true c1, decide_eq_true (show 1 ≤ l[i].f2 from c2)]; simp)
      · rw [if_neg c2]
        exact key _ (by rw [decide_eq_false (show ¬ 1 ≤ l[i].f2 from c2)]; simp)
    · rw [if_neg c1]
      exact key _ (by rw [decide_eq_false c1]; simp)
theorem valid_f (l : List S44) (hl : l.length ≤ 1000000) : state_valid.f (2 * l.length + 1) l = some (validP l) := by
  unfold state_valid.f
  simpa [validP] using valid_l0 l hl l.length 0 (by omega)
theorem refvalid_l0 (l : List S44) (hl : l.length ≤ 1000000) : ∀ (r i : Nat), r + i = l.length → backstepref10_Valid.l0 (r + 1) l (i : Int) = some ((l.drop i).all okVar && decide ((l.length : Int) ≤ 32))
  | 0, i, h => by
    unfold backstepref10_Valid.l0
    rw [if_neg (by omega), List.drop_eq_nil_of_le (by omega)]; simp
  | r + 1, i, h => by
    have hi : i < l.length := by omega
    have ed : l.drop i = l[i] :: l.drop (i + 1) := List.drop_eq_getElem_cons hi
    have ih := refvalid_l0 l hl r (i + 1) (by omega)
    have hn := next_i (i := i) (by omega)
    rw [ed]
    unfold backstepref10_Valid.l0
    rw [if_pos (by omega), if_pos (by omega), rdT_of hi, hn, ih]
    simp only [List.all_cons]
    unfold okVar
    by_cases c1 : l[i].f1 = 1
    · have c2 : ¬ l[i].f1 = 2 := by omega
      have c3 : ¬ l[i].f1 = 3 := by omega
      rw [if_pos c1, if_neg c2, decide_eq_true c1, decide_eq_false c2]
      by_cases c4 : l[i].f2 = 0
      · rw [if_pos c4, decide_eq_true c4]; simp
      · rw [if_neg c4, decide_eq_false c4]; simp
    · rw [if_neg c1]
      by_cases c3 : l[i].f1 = 3
      · have c2 : ¬ l[i].f1 = 2 := by omega
        rw [if_pos c3, if_neg c2, decide_eq_true c3, decide_eq_false c2]
        by_cases c4 : l[i].f2 = 0
        · rw [if_pos c4, decide_eq_true c4]; simp
        · rw [if_neg c4, decide_eq_false c4]; simp
      · rw [if_neg c3, decide_eq_false c1, decide_eq_false c3]
        by_cases c2 : l[i].f1 = 2
        · rw [if_pos c2, decide_eq_true c2]
          by_cases c4 : l[i].f2 ≥ 1
          · rw [if_pos c4, decide_eq_true (show 1 ≤ l[i].f2 from c4)]
            by_cases c5 : l[i].f2 ≤ 16
            · rw [if_pos c5, decide_eq_true c5]; simp
            · rw [if_neg c5, decide_eq_false c5]; simp
          · rw [if_neg c4, decide_eq_false (show ¬ 1 ≤ l[i].f2 from c4)]; simp
        · rw [if_neg c2, decide_eq_false c2]; simp
theorem refvalid_f (l : List S44) (hl : l.length ≤ 1000000) : backstepref10_Valid.f (l.length + 1) l = some (validP l) := by
  unfold backstepref10_Valid.f
  simpa [validP] using refvalid_l0 l hl l.length 0 (by omega)
/-- Whether a cell slice fits a declaration. -/
def fitCell (v : S44) (c : List Int) : Bool := if v.f1 = 3 then decide ((c.length : Int) ≤ 1000) else decide ((c.length : Int) = mx v.f2 1)
def fitAll : List S44 → List (List Int) → Bool
  | v :: vs, c :: cs => fitCell v c && fitAll vs cs
  | _, _ => true
def fitsP (l : List S44) (cs : List (List Int)) (i o : List Int) : Bool :=
  validP l && decide ((cs.length : Int) = (l.length : Int)) && decide ((i.length : Int) ≤ 4096) && decide ((o.length : Int) ≤ 4096) && fitAll l cs
theorem fits_l0 (l : List S44) (cs : List (List Int)) (a b : List Int) (hl : l.length ≤ 1000000) (hc : cs.length = l.length) : ∀ (r i : Nat), r + i = l.length → state_Fits.l0 (r + 1) l (l.length : Int) (i : Int) cs a b = some (fitAll (l.drop i) (cs.drop i))
  | 0, i, h => by
    unfold state_Fits.l0
    rw [if_neg (by omega), List.drop_eq_nil_of_le (by omega)]; simp [fitAll]
  | r + 1, i, h => by
    have hi : i < l.length := by omega
    have hic : i < cs.length := by omega
    have ed : l.drop i = l[i] :: l.drop (i + 1) := List.drop_eq_getElem_cons hi
    have ec : cs.drop i = cs[i] :: cs.drop (i + 1) := List.drop_eq_getElem_cons hic
    have ih := fits_l0 l cs a b hl hc r (i + 1) (by omega)
    have hn := next_i (i := i) (by omega)
    rw [ed, ec]
    unfold state_Fits.l0
    rw [if_pos (by omega), if_pos (by omega), if_pos (by omega), if_pos (by omega), rdT_of hi, rdL_of hic, hn, ih]
    simp only [fitAll, fitCell, state_size.f, Option.bind_some]
    by_cases c1 : l[i].f1 = 3
    · rw [if_pos c1, if_pos c1]
      by_cases c2 : (cs[i].length : Int) > 1000
      · rw [if_pos c2, decide_eq_false (by omega)]; simp
      · rw [if_neg c2, decide_eq_true (by omega)]; simp
    · rw [if_neg c1, if_neg c1]
      by_cases c2 : (cs[i].length : Int) = mx l[i].f2 1
      · rw [if_pos c2, decide_eq_true c2]; simp
      · rw [if_neg c2, decide_eq_false c2]; simp
theorem reffits_l0 (l : List S44) (cs : List (List Int)) (a b : List Int) (hl : l.length ≤ 1000000) (hc : cs.length = l.length) (hv : ∀ v ∈ l, okVar v = true) : ∀ (r i : Nat), r + i = l.length → backstepref10_Fits.l0 (r + 1) l (i : Int) cs a b = some (fitAll (l.drop i) (cs.drop i))
  | 0, i, h => by
    unfold backstepref10_Fits.l0
    rw [if_neg (by omega), List.drop_eq_nil_of_le (by omega)]; simp [fitAll]
  | r + 1, i, h => by
    have hi : i < l.length := by omega
    have hic : i < cs.length := by omega
    have ed : l.drop i = l[i] :: l.drop (i + 1) := List.drop_eq_getElem_cons hi
    have ec : cs.drop i = cs[i] :: cs.drop (i + 1) := List.drop_eq_getElem_cons hic
    have ih := reffits_l0 l cs a b hl hc hv r (i + 1) (by omega)
    have hn := next_i (i := i) (by omega)
    have ho := hv l[i] (List.getElem_mem hi)
    unfold okVar at ho
    simp only [Bool.or_eq_true, Bool.and_eq_true, decide_eq_true_eq] at ho
    rw [ed, ec]
    unfold backstepref10_Fits.l0
    rw [if_pos (by omega), if_pos (by omega), if_pos (by omega), rdT_of hi, rdL_of hic, hn, ih]
    simp only [fitAll, fitCell]
    by_cases c1 : l[i].f1 = 1
    · have c2 : ¬ l[i].f1 = 2 := by omega
      have c3 : ¬ l[i].f1 = 3 := by omega
      have c4 : l[i].f2 = 0 := by omega
      rw [if_pos c1, if_neg c2, if_neg c3, c4]
      have e : mx 0 1 = 1 := by decide
      rw [e]
      by_cases c5 : (cs[i].length : Int) = 1
      · rw [if_pos c5, if_neg (by omega), decide_eq_true c5]; simp
      · rw [if_neg c5, decide_eq_false c5]; simp
    · rw [if_neg c1]
      by_cases c2 : l[i].f1 = 2
      · have c3 : ¬ l[i].f1 = 3 := by omega
        have e : mx l[i].f2 1 = l[i].f2 := by unfold mx; rw [if_neg (by omega)]
        rw [if_pos c2, if_neg c3, e]
        by_cases c5 : (cs[i].length : Int) = l[i].f2
        · rw [if_pos c5, if_neg (by omega), decide_eq_true c5]; simp
        · rw [if_neg c5, decide_eq_false c5]; simp
      · have c3 : l[i].f1 = 3 := by omega
        rw [if_neg c2, if_pos c3]
        by_cases c5 : (cs[i].length : Int) > 1000
        · rw [if_pos c5, decide_eq_false (by omega)]; simp
        · rw [if_neg c5, decide_eq_true (by omega)]; simp
theorem fits_j0t (k : Nat) (l : List S44) (cs : List (List Int)) (a b : List Int) : state_Fits.j0 (k + 1) l true cs a b = some false := by rw [state_Fits.j0, if_pos rfl]
theorem fits_j0f (k : Nat) (l : List S44) (cs : List (List Int)) (a b : List Int) : state_Fits.j0 (k + 1) l false cs a b = state_Fits.l0 k l (l.length : Int) 0 cs a b := by rw [state_Fits.j0, if_neg (by simp)]
theorem reffits_j0t (k : Nat) (l : List S44) (cs : List (List Int)) (a b : List Int) : backstepref10_Fits.j0 (k + 1) l true cs a b = some false := by rw [backstepref10_Fits.j0, if_pos rfl]
theorem reffits_j0f (k : Nat) (l : List S44) (cs : List (List Int)) (a b : List Int) : backstepref10_Fits.j0 (k + 1) l false cs a b = backstepref10_Fits.l0 k l 0 cs a b := by rw [backstepref10_Fits.j0, if_neg (by simp)]
theorem fits_f (l : List S44) (cs : List (List Int)) (a b : List Int) (hl : l.length ≤ 1000000) : state_Fits.f (2 * l.length + 2) l cs a b = some (fitsP l cs a b) := by
  have hv := upto (fun k => state_valid.mono l k) (valid_f l hl) (show 2 * l.length + 1 ≤ 2 * l.length + 2 by omega)
  obtain ⟨K, hK⟩ : ∃ K, K = 2 * l.length + 1 := ⟨_, rfl⟩
  unfold state_Fits.f fitsP
  rw [hv, Option.bind_some, show 2 * l.length + 2 = K + 1 by omega]
  cases hvp : validP l
  · rw [if_neg (by simp), fits_j0t]; simp
  · rw [if_pos rfl]
    by_cases c1 : (cs.length : Int) = (l.length : Int)
    · rw [if_pos c1, decide_eq_true c1]
      by_cases c2 : (a.length : Int) > 4096
      · rw [if_pos c2, fits_j0t, decide_eq_false (show ¬ (a.length : Int) ≤ 4096 by omega)]; simp
      · rw [if_neg c2, decide_eq_true (show (a.length : Int) ≤ 4096 by omega)]
        by_cases c3 : (b.length : Int) > 4096
        · rw [decide_eq_true c3, fits_j0t, decide_eq_false (show ¬ (b.length : Int) ≤ 4096 by omega)]; simp
        · have h0 := fits_l0 l cs a b hl (by omega) l.length 0 (by omega)
          have h0' := upto (fun k => (state_Fits.mono_l k).2 l (l.length : Int) 0 cs a b) h0 (show l.length + 1 ≤ K by omega)
          rw [decide_eq_false c3, fits_j0f, decide_eq_true (show (b.length : Int) ≤ 4096 by omega), h0']; simp
    · rw [if_neg c1, fits_j0t, decide_eq_false c1]; simp
theorem reffits_f (l : List S44) (cs : List (List Int)) (a b : List Int) (hl : l.length ≤ 1000000) : backstepref10_Fits.f (2 * l.length + 2) l cs a b = some (fitsP l cs a b) := by
  have hv := upto (fun k => backstepref10_Valid.mono l k) (refvalid_f l hl) (show l.length + 1 ≤ 2 * l.length + 2 by omega)
  obtain ⟨K, hK⟩ : ∃ K, K = 2 * l.length + 1 := ⟨_, rfl⟩
  unfold backstepref10_Fits.f fitsP
  rw [hv, Option.bind_some, show 2 * l.length + 2 = K + 1 by omega]
  cases hvp : validP l
  · rw [if_neg (by simp), reffits_j0t]; simp
  · rw [if_pos rfl]
    by_cases c1 : (cs.length : Int) = (l.length : Int)
    · rw [if_pos c1, decide_eq_true c1]
      by_cases c2 : (a.length : Int) > 4096
      · rw [if_pos c2, reffits_j0t, decide_eq_false (show ¬ (a.length : Int) ≤ 4096 by omega)]; simp
      · rw [if_neg c2, decide_eq_true (show (a.length : Int) ≤ 4096 by omega)]
        by_cases c3 : (b.length : Int) > 4096
        · rw [decide_eq_true c3, reffits_j0t, decide_eq_false (show ¬ (b.length : Int) ≤ 4096 by omega)]; simp
        · have hall : ∀ v ∈ l, okVar v = true := by
            unfold validP at hvp
            simp only [Bool.and_eq_true, List.all_eq_true] at hvp
            exact hvp.1
          have h0 := reffits_l0 l cs a b hl (by omega) hall l.length 0 (by omega)
          have h0' := upto (fun k => (backstepref10_Fits.mono_l k).2 l 0 cs a b) h0 (show l.length + 1 ≤ K by omega)
          rw [decide_eq_false c3, reffits_j0f, decide_eq_true (show (b.length : Int) ≤ 4096 by omega), h0']; simp
    · rw [if_neg c1, reffits_j0t, decide_eq_false c1]; simp
/-- Two lists of numbers compared. -/
theorem ints_l0 (a b : List Int) (hl : a.length ≤ 1000000) (he : a.length = b.length) : ∀ (r i : Nat), r + i = a.length → backstepref10_Ints.l0 (r + 1) a b (i : Int) = some (decide (a.drop i = b.drop i))
  | 0, i, h => by
    unfold backstepref10_Ints.l0
    rw [if_neg (by omega), List.drop_eq_nil_of_le (by omega), List.drop_eq_nil_of_le (by omega)]; simp
  | r + 1, i, h => by
    have hi : i < a.length := by omega
    have hi2 : i < b.length := by omega
    have e1 : a.drop i = a[i] :: a.drop (i + 1) := List.drop_eq_getElem_cons hi
    have e2 : b.drop i = b[i] :: b.drop (i + 1) := List.drop_eq_getElem_cons hi2
    have ih := ints_l0 a b hl he r (i + 1) (by omega)
    rw [e1, e2]
    unfold backstepref10_Ints.l0
    rw [if_pos (by omega), if_pos (by omega), if_pos (by omega), rd_of hi, rd_of hi2, next_i (by omega), ih]
    by_cases c : a[i] = b[i]
    · rw [if_pos c]
      exact congrArg some (decide_eq_decide.2 ⟨fun h => by rw [c, h], fun h => (List.cons.inj h).2⟩)
    · rw [if_neg c]
      exact congrArg some (decide_eq_false (fun h => c (List.cons.inj h).1)).symm
theorem ints_f (a b : List Int) (hl : a.length ≤ 1000000) : backstepref10_Ints.f (a.length + 1) a b = some (decide (a = b)) := by
  unfold backstepref10_Ints.f
  by_cases c : (a.length : Int) = (b.length : Int)
  · rw [if_pos c]
    simpa using ints_l0 a b hl (by omega) a.length 0 (by omega)
  · rw [if_neg c, decide_eq_false]
    rintro rfl; exact c rfl
def smallP (cs : List (List Int)) (a b : List Int) : Prop := cs.length ≤ 40 ∧ a.length ≤ 60 ∧ b.length ≤ 60 ∧ ∀ r ∈ cs, r.length ≤ 60
instance (cs : List (List Int)) (a b : List Int) : Decidable (smallP cs a b) := by unfold smallP; infer_instance
theorem small_l0 (cs : List (List Int)) (a b : List Int) (hc : cs.length ≤ 40) : ∀ (r i : Nat), r + i = cs.length → backsteplaw10_small.l0 (r + 1) (i : Int) cs a b = some (if ∀ x ∈ cs.drop i, x.length ≤ 60 then 1 else 0)
  | 0, i, h => by
    unfold backsteplaw10_small.l0
    rw [if_neg (by omega), List.drop_eq_nil_of_le (by omega)]; simp
  | r + 1, i, h => by
    have hi : i < cs.length := by omega
    have ed : cs.drop i = cs[i] :: cs.drop (i + 1) := List.drop_eq_getElem_cons hi
    have ih := small_l0 cs a b hc r (i + 1) (by omega)
    rw [ed]
    unfold backsteplaw10_small.l0
    rw [if_pos (by omega), if_pos (by omega), rdL_of hi, next_i (by omega), ih]
    by_cases c : (cs[i].length : Int) > 60
    · rw [if_pos c, if_neg]
      intro h'
      have := h' cs[i] List.mem_cons_self
      omega
    · rw [if_neg c]
      congr 1
      have : (∀ x ∈ cs.drop (i + 1), x.length ≤ 60) ↔ (∀ x ∈ cs[i] :: cs.drop (i + 1), x.length ≤ 60) := by
        constructor
        · intro h' x hx
          rcases List.mem_cons.1 hx with rfl | hx
          · omega
          · exact h' x hx
        · exact fun h' x hx => h' x (List.mem_cons_of_mem _ hx)
      simp only [this]
theorem small_f (cs : List (List Int)) (a b : List Int) : ∃ K, backsteplaw10_small.f K cs a b = some (if smallP cs a b then 1 else 0) := by
  have jt : ∀ k, backsteplaw10_small.j0 (k + 1) true cs a b = some 0 := fun k => by rw [backsteplaw10_small.j0, if_pos rfl]
  by_cases c1 : (cs.length : Int) > 40
  · refine ⟨1, ?_⟩
    unfold backsteplaw10_small.f
    rw [if_pos c1, if_neg (fun h => by have := h.1; omega)]
    exact jt 0
  · by_cases c2 : (a.length : Int) > 60
    · refine ⟨1, ?_⟩
      unfold backsteplaw10_small.f
      rw [if_neg c1, if_pos c2, if_neg (fun h => by have := h.2.1; omega)]
      exact jt 0
    · by_cases c3 : (b.length : Int) > 60
      · refine ⟨1, ?_⟩
        unfold backsteplaw10_small.f
        rw [if_neg c1, if_neg c2, decide_eq_true c3, if_neg (fun h => by have := h.2.2.1; omega)]
        exact jt 0
      · have h0 := small_l0 cs a b (by omega) cs.length 0 (by omega)
        obtain ⟨K, hK⟩ : ∃ K, K = cs.length + 1 := ⟨_, rfl⟩
        rw [← hK] at h0
        refine ⟨K + 1, ?_⟩
        unfold backsteplaw10_small.f
        rw [if_neg c1, if_neg c2, decide_eq_false c3, backsteplaw10_small.j0, if_neg (by simp)]
        have e : (smallP cs a b) ↔ (∀ x ∈ cs.drop 0, x.length ≤ 60) := by
          unfold smallP
          rw [List.drop_zero]
          exact ⟨fun h => h.2.2.2, fun h => ⟨by omega, by omega, by omega, h⟩⟩
        simp only [e]
        exact h0
def sameP (a : List (List Int)) (i o : List Int) (b : List (List Int)) (i' o' : List Int) : Bool := decide (a = b) && decide (i = i') && decide (o = o')
theorem refeq_l0 (a : List (List Int)) (i o : List Int) (b : List (List Int)) (i' o' : List Int) (hl : a.length ≤ 1000) (hr : ∀ x ∈ a, x.length ≤ 1000) (he : a.length = b.length) : ∀ (r j : Nat), r + j = a.length → backstepref10_Equal.l0 (r + 1002) (j : Int) a i o b i' o' = some (decide (a.drop j = b.drop j))
  | 0, j, h => by
    obtain ⟨z, hz⟩ : ∃ z, 0 + 1002 = z + 1 := ⟨1001, rfl⟩
    rw [hz]
    unfold backstepref10_Equal.l0
    rw [if_neg (by omega), List.drop_eq_nil_of_le (by omega), List.drop_eq_nil_of_le (by omega)]; simp
  | r + 1, j, h => by
    have hi : j < a.length := by omega
    have hi2 : j < b.length := by omega
    have e1 : a.drop j = a[j] :: a.drop (j + 1) := List.drop_eq_getElem_cons hi
    have e2 : b.drop j = b[j] :: b.drop (j + 1) := List.drop_eq_getElem_cons hi2
    have ih := refeq_l0 a i o b i' o' hl hr he r (j + 1) (by omega)
    have hm := hr a[j] (List.getElem_mem hi)
    have hq := upto (fun k => backstepref10_Ints.mono a[j] b[j] k) (ints_f a[j] b[j] (by omega)) (show a[j].length + 1 ≤ r + 1002 by omega)
    rw [e1, e2, show r + 1 + 1002 = (r + 1002) + 1 by omega]
    unfold backstepref10_Equal.l0
    rw [if_pos (by omega), if_pos (by omega), if_pos (by omega), rdL_of hi, rdL_of hi2, hq, Option.bind_some, next_i (by omega), ih]
    by_cases c : a[j] = b[j]
    · rw [if_pos (decide_eq_true c)]
      exact congrArg some (decide_eq_decide.2 ⟨fun h => by rw [c, h], fun h => (List.cons.inj h).2⟩)
    · rw [if_neg (by rw [decide_eq_false c]; simp)]
      exact congrArg some (decide_eq_false (fun h => c (List.cons.inj h).1)).symm
theorem refequal_f (a : List (List Int)) (i o : List Int) (b : List (List Int)) (i' o' : List Int) (hl : a.length ≤ 1000) (hr : ∀ x ∈ a, x.length ≤ 1000) (h1 : i.length ≤ 1000) (h2 : o.length ≤ 1000) :
    backstepref10_Equal.f 2100 a i o b i' o' = some (sameP a i o b i' o') := by
  have q1 := upto (fun k => backstepref10_Ints.mono i i' k) (ints_f i i' (by omega)) (show _ ≤ 2100 by omega)
  have q2 := upto (fun k => backstepref10_Ints.mono o o' k) (ints_f o o' (by omega)) (show _ ≤ 2100 by omega)
  have jt : backstepref10_Equal.j0 2100 true a i o b i' o' = some false := by
    obtain ⟨z, hz⟩ : ∃ z, 2100 = z + 1 := ⟨2099, rfl⟩
    rw [hz, backstepref10_Equal.j0, if_pos rfl]
  unfold backstepref10_Equal.f sameP
  by_cases c0 : (a.length : Int) = (b.length : Int)
  · rw [if_pos c0, q1, Option.bind_some]
    by_cases c1 : i = i'
    · rw [if_pos (decide_eq_true c1), decide_eq_true c1, q2, Option.bind_some]
      by_cases c2 : o = o'
      · have h3 := refeq_l0 a i o b i' o' hl hr (by omega) a.length 0 (by omega)
        obtain ⟨z, hz⟩ : ∃ z, 2100 = z + 1 := ⟨2099, rfl⟩
        have h4 := upto (fun k => (backstepref10_Equal.mono_l k).2 0 a i o b i' o') h3 (show a.length + 1002 ≤ z by omega)
        rw [decide_eq_true c2, hz, backstepref10_Equal.j0, if_neg (by simp), h4]; simp
      · rw [decide_eq_false c2]
        simp only [Bool.not_false, Bool.and_false]; exact jt
    · rw [if_neg (by rw [decide_eq_false c1]; simp), decide_eq_false c1]
      simp only [Bool.and_false, Bool.false_and]; exact jt
  · rw [if_neg c0, decide_eq_false (show ¬ a = b by rintro rfl; exact c0 rfl)]
    simp only [Bool.false_and]; exact jt
/-- The byte k of a number. -/
def byteOf (x : Int) (k : Nat) : Int := (IntKind.u64.wrap x) / 256 ^ k % 256
/-- The n low bytes, the most significant first. -/
def bytesBE (x : Int) : Nat → List Int
  | 0 => []
  | n + 1 => byteOf x n :: bytesBE x n
theorem bytesBE_length (x : Int) : ∀ n, (bytesBE x n).length = n
  | 0 => rfl
  | n + 1 => by simp [bytesBE, bytesBE_length x n]
theorem shr_byte (x : Int) (k : Nat) (hk : k < 8) : (shr .u64 (IntKind.u64.wrap x) (8 * (k : Int))) % 256 = byteOf x k := by
  unfold shr byteOf
  have e : min (8 * (k : Int)).toNat IntKind.u64.bits = 8 * k := by
    have : IntKind.u64.bits = 64 := rfl
    rw [this]; omega
  rw [e, Int.pow_mul]; rfl
theorem put_l0 (x : Int) : ∀ (n : Nat) (acc : List Int), n ≤ 8 → acc.length + n ≤ 2199023255552 → state_put.l0 (n + 1) acc x ((n : Int) - 1) = some (acc ++ bytesBE x n)
  | 0, acc, _, _ => by
    unfold state_put.l0
    rw [if_neg (by omega)]; simp [bytesBE]
  | n + 1, acc, hn, ha => by
    have ih := put_l0 x n (acc ++ [byteOf x n]) (by omega) (by simp; omega)
    have e : (((n + 1 : Nat) : Int) - 1) = (n : Int) := by omega
    rw [e]
    unfold state_put.l0
    have w1 : wrap64 (8 * (n : Int)) = 8 * (n : Int) := wrap64_of (by omega) (by omega)
    have w2 : wrap64 ((n : Int) - 1) = (n : Int) - 1 := wrap64_of (by omega) (by omega)
    have q1 : (n : Int) ≥ 0 := by omega
    have q2 : 0 ≤ 8 * (n : Int) := by omega
    have q3 : acc.length < 140737488355328 := by omega
    rw [if_pos q1, w1, if_pos q2, if_pos q3, shr_byte x n (by omega), w2, ih]
    simp [bytesBE]
theorem put_f (x : Int) (n : Nat) (acc : List Int) (hn : n ≤ 8) (ha : acc.length ≤ 1099511627776) : state_put.f (n + 1) acc x (n : Int) = some (acc ++ bytesBE x n) := by
  unfold state_put.f
  rw [wrap64_of (by omega) (by omega)]
  exact put_l0 x n acc hn (by omega)
/-- A list's numbers. -/
def numsB (l : List Int) : List Int := l.flatMap fun x => bytesBE x 8
theorem numsB_length (l : List Int) : (numsB l).length = 8 * l.length := by
  induction l with
  | nil => rfl
  | cons x l ih =>
    have : numsB (x :: l) = bytesBE x 8 ++ numsB l := rfl
    rw [this, List.length_append, bytesBE_length, ih, List.length_cons]; omega
theorem list_l0 (l : List Int) (hl : l.length ≤ 100000) : ∀ (r i : Nat) (acc : List Int), r + i = l.length → acc.length ≤ 549755813888 + 8 * i → state_list.l0 (r + 10) acc l (l.length : Int) (i : Int) = some (acc ++ numsB (l.drop i))
  | 0, i, acc, h, ha => by
    obtain ⟨z, hz⟩ : ∃ z, 0 + 10 = z + 1 := ⟨9, rfl⟩
    rw [hz]
    unfold state_list.l0
    rw [if_neg (by omega), List.drop_eq_nil_of_le (by omega)]; simp [numsB]
  | r + 1, i, acc, h, ha => by
    have hi : i < l.length := by omega
    have ed : l.drop i = l[i] :: l.drop (i + 1) := List.drop_eq_getElem_cons hi
    have hp := upto (fun k => state_put.mono acc l[i] 8 k) (put_f l[i] 8 acc (by omega) (by omega)) (show 8 + 1 ≤ r + 10 by omega)
    have ih := list_l0 l hl r (i + 1) (acc ++ bytesBE l[i] 8) (by omega) (by rw [List.length_append, bytesBE_length]; omega)
    rw [ed, show r + 1 + 10 = (r + 10) + 1 by omega]
    unfold state_list.l0
    rw [if_pos (by omega), if_pos (by omega), if_pos (by omega), rd_of hi]
    have hp' : state_put.f (r + 10) acc l[i] 8 = some (acc ++ bytesBE l[i] 8) := hp
    rw [hp', Option.bind_some, next_i (by omega), ih, List.append_assoc]; rfl
def listB (l : List Int) (counted : Bool) : List Int := (if counted = true then bytesBE (l.length : Int) 2 else []) ++ numsB l
theorem list_f (l : List Int) (hl : l.length ≤ 100000) (acc : List Int) (ha : acc.length ≤ 274877906944) (c : Bool) : state_list.f (l.length + 12) acc l c = some (acc ++ listB l c) := by
  unfold state_list.f listB
  have hj : ∀ acc' : List Int, acc'.length ≤ 549755813888 → state_list.j0 (l.length + 12) acc' l = some (acc' ++ numsB l) := by
    intro acc' ha'
    have h0 := list_l0 l hl l.length 0 acc' (by omega) (by omega)
    have h1 := upto (fun k => (state_list.mono_l k).2 acc' l (l.length : Int) 0) h0 (show l.length + 10 ≤ l.length + 11 by omega)
    rw [show l.length + 12 = (l.length + 11) + 1 by omega, state_list.j0, h1]; simp
  cases c
  · rw [if_neg (by simp), if_neg (by simp), hj acc (by omega)]; simp
  · rw [if_pos rfl, if_pos rfl]
    have hp := upto (fun k => state_put.mono acc (l.length : Int) 2 k) (put_f (l.length : Int) 2 acc (by omega) (by omega)) (show 2 + 1 ≤ l.length + 12 by omega)
    have hp' : state_put.f (l.length + 12) acc (l.length : Int) 2 = some (acc ++ bytesBE (l.length : Int) 2) := hp
    rw [hp', Option.bind_some, hj _ (by rw [List.length_append, bytesBE_length]; omega), List.append_assoc]
/-- The cells' bytes. -/
def cellsB : List S44 → List (List Int) → List Int
  | v :: vs, c :: cs => listB c (v.f1 == 3) ++ cellsB vs cs
  | _, _ => []
theorem listB_len (l : List Int) (c : Bool) : (listB l c).length ≤ 8 * l.length + 2 := by
  unfold listB
  rw [List.length_append, numsB_length]
  split
  · rw [bytesBE_length]; omega
  · simp
theorem encode_l0 (l : List S44) (cs : List (List Int)) (i o : List Int) (hl : l.length ≤ 1000) (hc : cs.length = l.length) (hr : ∀ r ∈ cs, r.length ≤ 5000) (hi : i.length ≤ 5000) (ho : o.length ≤ 5000) :
    ∀ (r j : Nat) (acc : List Int), r + j = l.length → acc.length ≤ 100000 * j → state_Encode.l0 (r + 5020) acc l (l.length : Int) (j : Int) cs i o = some (acc ++ cellsB (l.drop j) (cs.drop j) ++ listB i true ++ listB o true, 0)
  | 0, j, acc, h, ha => by
    have h1 := upto (fun k => state_list.mono acc i true k) (list_f i (by omega) acc (by omega) true) (show i.length + 12 ≤ 5019 by omega)
    have h2 := upto (fun k => state_list.mono (acc ++ listB i true) o true k) (list_f o (by omega) (acc ++ listB i true) (by have := listB_len i true; rw [List.length_append]; omega) true) (show o.length + 12 ≤ 5019 by omega)
    obtain ⟨z, hz⟩ : ∃ z, z = 5019 := ⟨_, rfl⟩
    rw [← hz] at h1 h2
    rw [show 0 + 5020 = z + 1 by omega]
    unfold state_Encode.l0
    rw [if_neg (by omega), h1, Option.bind_some, h2, Option.bind_some, List.drop_eq_nil_of_le (by omega)]
    simp [cellsB]
  | r + 1, j, acc, h, ha => by
    have hj : j < l.length := by omega
    have hjc : j < cs.length := by omega
    have ed : l.drop j = l[j] :: l.drop (j + 1) := List.drop_eq_getElem_cons hj
    have ec : cs.drop j = cs[j] :: cs.drop (j + 1) := List.drop_eq_getElem_cons hjc
    have hrj := hr cs[j] (List.getElem_mem hjc)
    have h1 := upto (fun k => state_list.mono acc cs[j] (l[j].f1 == 3) k) (list_f cs[j] (by omega) acc (by omega) (l[j].f1 == 3)) (show cs[j].length + 12 ≤ r + 5020 by omega)
    have hlb := listB_len cs[j] (l[j].f1 == 3)
    have ih := encode_l0 l cs i o hl hc hr hi ho r (j + 1) (acc ++ listB cs[j] (l[j].f1 == 3)) (by omega) (by rw [List.length_append]; omega)
    rw [ed, ec, show r + 1 + 5020 = (r + 5020) + 1 by omega]
    unfold state_Encode.l0
    rw [if_pos (by omega), if_pos (by omega), if_pos (by omega), if_pos (by omega), rdT_of hj, rdL_of hjc, h1, Option.bind_some, next_i (by omega), ih]
    simp [cellsB]
def encB (l : List S44) (cs : List (List Int)) (i o : List Int) : List Int := cellsB l cs ++ listB i true ++ listB o true
theorem encode_f (l : List S44) (cs : List (List Int)) (i o : List Int) (hl : l.length ≤ 1000) (hr : ∀ r ∈ cs, r.length ≤ 5000) (hi : i.length ≤ 5000) (ho : o.length ≤ 5000) :
    state_Encode.f 8000 l cs i o = some (if fitsP l cs i o = true then (encB l cs i o, 0) else ([], 3)) := by
  have hf := upto (fun k => state_Fits.mono l cs i o k) (fits_f l cs i o (by omega)) (show 2 * l.length + 2 ≤ 8000 by omega)
  unfold state_Encode.f
  rw [hf, Option.bind_some]
  by_cases c : fitsP l cs i o = true
  · rw [if_pos c, if_pos c]
    have hc : cs.length = l.length := by
      unfold fitsP at c
      simp only [Bool.and_eq_true, decide_eq_true_eq] at c
      omega
    have h0 := encode_l0 l cs i o hl hc hr hi ho l.length 0 [] (by omega) (by simp)
    have h1 := upto (fun k => state_Encode.mono_l k [] l (l.length : Int) 0 cs i o) h0 (show l.length + 5020 ≤ 8000 by omega)
    rw [h1]; simp [encB]
  · rw [if_neg c, if_neg c]
/-- The number that bytes give. -/
def valBE (b : List Int) : Int := b.foldl (fun a c => a * 256 + c) 0
theorem foldl_val (b : List Int) : ∀ a : Int, b.foldl (fun a c => a * 256 + c) a = a * 256 ^ b.length + valBE b := by
  unfold valBE
  induction b with
  | nil => intro a; simp
  | cons c b ih =>
    intro a
    rw [List.foldl_cons, ih (a * 256 + c), List.foldl_cons, ih (0 * 256 + c), List.length_cons, Int.pow_succ]
    have : (a * 256 + c) * 256 ^ b.length = a * (256 ^ b.length * 256) + c * 256 ^ b.length := by
      rw [Int.add_mul, Int.mul_assoc, Int.mul_comm 256]
    rw [this, Int.zero_mul, Int.zero_add, Int.add_assoc]
theorem valBE_cons (c : Int) (b : List Int) : valBE (c :: b) = c * 256 ^ b.length + valBE b := by
  show (c :: b).foldl (fun a c => a * 256 + c) 0 = _
  rw [List.foldl_cons, foldl_val, Int.zero_mul, Int.zero_add]
theorem mod_step (u : Int) (m : Int) (hm : 0 < m) : u % (m * 256) = u / m % 256 * m + u % m := by
  have h1 := Int.emod_add_mul_ediv u m
  have h2 := Int.emod_add_mul_ediv (u / m) 256
  have hlt := Int.emod_lt_of_pos u hm
  have hge := Int.emod_nonneg u (by omega : m ≠ 0)
  have h3 : u / (m * 256) = u / m / 256 := by rw [Int.ediv_ediv_of_nonneg (by omega)]
  have h4 := Int.emod_add_mul_ediv u (m * 256)
  rw [h3] at h4
  have h5 : m * (u / m) = m * (u / m % 256) + m * (256 * (u / m / 256)) := by rw [← Int.mul_add, h2]
  have h6 : m * 256 * (u / m / 256) = m * (256 * (u / m / 256)) := Int.mul_assoc _ _ _
  rw [Int.mul_comm (u / m % 256) m]
  omega
theorem valBE_bytes (x : Int) : ∀ n, valBE (bytesBE x n) = IntKind.u64.wrap x % 256 ^ n
  | 0 => by simp [valBE, bytesBE]
  | n + 1 => by
    rw [bytesBE, valBE_cons, bytesBE_length, valBE_bytes x n, Int.pow_succ, mod_step _ _ (Int.pow_pos (by decide))]; rfl
theorem u64_of (x : Int) : IntKind.u64.wrap x = x % 18446744073709551616 := by
  unfold IntKind.wrap
  simp [IntKind.bits, IntKind.signed]
def in64 (x : Int) : Prop := -9223372036854775808 ≤ x ∧ x < 9223372036854775808
theorem bytesBE_areB (x : Int) : ∀ n, areB (bytesBE x n)
  | 0 => by intro y hy; simp [bytesBE] at hy
  | n + 1 => by
    intro y hy
    rw [bytesBE] at hy
    rcases List.mem_cons.1 hy with rfl | hy
    · unfold byteOf; omega
    · exact bytesBE_areB x n y hy
theorem areB_append {a b : List Int} (ha : areB a) (hb : areB b) : areB (a ++ b) := by
  intro x hx
  rcases List.mem_append.1 hx with h | h
  · exact ha x h
  · exact hb x h
theorem numsB_areB (l : List Int) : areB (numsB l) := by
  intro y hy
  obtain ⟨x, _, hx⟩ := List.mem_flatMap.1 hy
  exact bytesBE_areB x 8 y hx
theorem listB_areB (l : List Int) (c : Bool) : areB (listB l c) := by
  unfold listB
  refine areB_append ?_ (numsB_areB l)
  split
  · exact bytesBE_areB _ 2
  · intro y hy; simp at hy
theorem cellsB_areB : ∀ (l : List S44) (cs : List (List Int)), areB (cellsB l cs)
  | v :: l, c :: cs => areB_append (listB_areB c _) (cellsB_areB l cs)
  | [], _ => by intro y hy; simp [cellsB] at hy
  | _ :: _, [] => by intro y hy; simp [cellsB] at hy
theorem encB_areB (l : List S44) (cs : List (List Int)) (i o : List Int) : areB (encB l cs i o) :=
  areB_append (areB_append (cellsB_areB l cs) (listB_areB i true)) (listB_areB o true)
theorem valF_BE (b : List Int) : valF 0 b = valBE b := rfl
theorem num8 {x : Int} (hx : in64 x) : numF (bytesBE x 8) = x := by
  obtain ⟨h1, _, _⟩ := numF_val (bytesBE_areB x 8) (by rw [bytesBE_length]; omega)
  rw [h1, valF_BE, valBE_bytes, u64_of]
  have e : (256 : Int) ^ 8 = 18446744073709551616 := by decide
  rw [e]
  unfold wrap64
  unfold in64 at hx
  omega
theorem num2 {n : Nat} (hn : n < 65536) : numF (bytesBE (n : Int) 2) = (n : Int) := by
  obtain ⟨h1, _, _⟩ := numF_val (bytesBE_areB (n : Int) 2) (by rw [bytesBE_length]; omega)
  rw [h1, valF_BE, valBE_bytes, u64_of]
  have e : (256 : Int) ^ 2 = 65536 := by decide
  rw [e]
  unfold wrap64
  omega
theorem numsB_cons (x : Int) (l : List Int) : numsB (x :: l) = bytesBE x 8 ++ numsB l := rfl
theorem drop_len {a b : List Int} {n : Nat} (h : a.length = n) : (a ++ b).drop n = b := by subst h; exact List.drop_left
theorem lst_enc : ∀ (l acc r : List Int), (∀ x ∈ l, in64 x) → lstF l.length acc (numsB l ++ r) 0 = (acc ++ l, r, 0)
  | [], acc, r, _ => by simp [lstF, numsB]
  | x :: l, acc, r, h => by
    have hl : (bytesBE x 8).length = 8 := bytesBE_length x 8
    have e1 : (bytesBE x 8 ++ (numsB l ++ r)).take 8 = bytesBE x 8 := by rw [List.take_append_of_le_length (by omega), List.take_of_length_le (by omega)]
    have e2 : (bytesBE x 8 ++ (numsB l ++ r)).drop 8 = numsB l ++ r := drop_len hl
    rw [List.length_cons, lstF_succ, if_neg (by simp), numsB_cons, List.append_assoc, if_neg (by rw [List.length_append, hl]; omega), e1, e2, num8 (h x List.mem_cons_self), lst_enc l (acc ++ [x]) r (fun y hy => h y (List.mem_cons_of_mem _ hy)), List.append_assoc]
    rfl
theorem cnt_enc (most : Int) (n : Nat) (r : List Int) (hn : (n : Int) ≤ most) (hm : most < 65536) : cntF most (bytesBE (n : Int) 2 ++ r) 0 = ((n : Int), r, 0) := by
  have hl : (bytesBE (n : Int) 2).length = 2 := bytesBE_length (n : Int) 2
  have e1 : (bytesBE (n : Int) 2 ++ r).take 2 = bytesBE (n : Int) 2 := by rw [List.take_append_of_le_length (by omega), List.take_of_length_le (by omega)]
  have e2 : (bytesBE (n : Int) 2 ++ r).drop 2 = r := drop_len hl
  unfold cntF
  rw [if_neg (by simp), if_neg (by rw [List.length_append, hl]; omega), e1, e2, num2 (by omega), if_neg (by omega)]
theorem row_enc (v : S44) (c r : List Int) (hf : fitCell v c = true) (hv : okVar v = true) (h : ∀ x ∈ c, in64 x) :
    lstF (rowN v (listB c (v.f1 == 3) ++ r) 0).1.toNat [] (rowN v (listB c (v.f1 == 3) ++ r) 0).2.1 (rowN v (listB c (v.f1 == 3) ++ r) 0).2.2 = (c, r, 0) := by
  unfold fitCell at hf
  unfold rowN listB
  by_cases hk : v.f1 = 3
  · have hk' : (v.f1 == 3) = true := by simpa using hk
    rw [if_pos hk, decide_eq_true_eq] at hf
    rw [if_pos hk, hk', if_pos rfl, List.append_assoc, cnt_enc 1000 c.length (numsB c ++ r) hf (by decide)]
    have := lst_enc c [] r h
    simpa using this
  · have hk' : (v.f1 == 3) = false := by simpa using hk
    rw [if_neg hk, decide_eq_true_eq] at hf
    rw [if_neg hk, hk', if_neg (by simp), List.nil_append]
    have e : (mx v.f2 1).toNat = c.length := by omega
    have := lst_enc c [] r h
    simpa [e] using this
theorem cells_enc : ∀ (l : List S44) (cs : List (List Int)) (acc : List (List Int)) (r : List Int), cs.length = l.length → fitAll l cs = true → (∀ v ∈ l, okVar v = true) → (∀ c ∈ cs, ∀ x ∈ c, in64 x) →
    decCells l acc (cellsB l cs ++ r) 0 = (acc ++ cs, r, 0)
  | [], [], acc, r, _, _, _, _ => by simp [decCells, cellsB]
  | [], _ :: _, _, _, h, _, _, _ => by simp at h
  | _ :: _, [], _, _, h, _, _, _ => by simp at h
  | v :: l, c :: cs, acc, r, h, hf, hv, hx => by
    simp only [fitAll, Bool.and_eq_true] at hf
    have e : cellsB (v :: l) (c :: cs) ++ r = listB c (v.f1 == 3) ++ (cellsB l cs ++ r) := by simp [cellsB]
    have hr := row_enc v c (cellsB l cs ++ r) hf.1 (hv v List.mem_cons_self) (hx c List.mem_cons_self)
    rw [decCells_cons, e, hr]
    rw [cells_enc l cs (acc ++ [c]) r (by simpa using h) hf.2 (fun y hy => hv y (List.mem_cons_of_mem _ hy)) (fun y hy => hx y (List.mem_cons_of_mem _ hy)), List.append_assoc]
    rfl
theorem tail_enc (i r : List Int) (hi : i.length ≤ 4096) (h : ∀ x ∈ i, in64 x) : decTail (listB i true ++ r) 0 = (i, r, 0) := by
  unfold decTail listB
  rw [if_pos rfl, List.append_assoc, cnt_enc 4096 i.length (numsB i ++ r) (by omega) (by decide)]
  have := lst_enc i [] r h
  simpa using this
theorem dec_enc (l : List S44) (cs : List (List Int)) (i o : List Int) (hf : fitsP l cs i o = true) (hx : ∀ c ∈ cs, ∀ x ∈ c, in64 x) (hi : ∀ x ∈ i, in64 x) (ho : ∀ x ∈ o, in64 x) : decF l (encB l cs i o) true = (cs, i, o, 0) := by
  unfold fitsP validP at hf
  simp only [Bool.and_eq_true, decide_eq_true_eq, List.all_eq_true] at hf
  obtain ⟨⟨⟨⟨⟨hv, _⟩, hl⟩, h1⟩, h2⟩, hc⟩ := hf
  unfold decF encB
  rw [if_pos rfl, List.append_assoc, cells_enc l cs [] _ (by omega) hc hv hx]
  have e1 := tail_enc i (listB o true) (by omega) hi
  have e2 := tail_enc o [] (by omega) ho
  rw [List.append_nil] at e2
  unfold decRest
  simp only [e1, e2]
  rfl
/-- The reference's Encode. -/
theorem refnum_l0 (x : Int) : ∀ (n : Nat) (acc : List Int), n ≤ 8 → acc.length + n ≤ 2199023255552 → backstepref10_Number.l0 (n + 1) x acc ((n : Int) - 1) = some (acc ++ bytesBE x n)
  | 0, acc, _, _ => by
    unfold backstepref10_Number.l0
    rw [if_neg (by omega)]; simp [bytesBE]
  | n + 1, acc, hn, ha => by
    have ih := refnum_l0 x n (acc ++ [byteOf x n]) (by omega) (by simp; omega)
    have e : (((n + 1 : Nat) : Int) - 1) = (n : Int) := by omega
    rw [e]
    unfold backstepref10_Number.l0
    have w1 : wrap64 (8 * (n : Int)) = 8 * (n : Int) := wrap64_of (by omega) (by omega)
    have w2 : wrap64 ((n : Int) - 1) = (n : Int) - 1 := wrap64_of (by omega) (by omega)
    have q1 : (n : Int) ≥ 0 := by omega
    have q2 : 0 ≤ 8 * (n : Int) := by omega
    have q3 : acc.length < 140737488355328 := by omega
    rw [if_pos q1, w1, if_pos q2, if_pos q3, shr_byte x n (by omega), w2, ih]
    simp [bytesBE]
theorem refnum_f (x : Int) : backstepref10_Number.f 9 x = some (bytesBE x 8) := by
  unfold backstepref10_Number.f
  have := refnum_l0 x 8 [] (by omega) (by simp)
  simpa using this
theorem refnums_l0 (l : List Int) (hl : l.length ≤ 100000) : ∀ (r i : Nat) (acc : List Int), r + i = l.length → acc.length ≤ 549755813888 + 8 * i → backstepref10_Numbers.l0 (r + 10) l acc (i : Int) = some (acc ++ numsB (l.drop i))
  | 0, i, acc, h, ha => by
    obtain ⟨z, hz⟩ : ∃ z, 0 + 10 = z + 1 := ⟨9, rfl⟩
    rw [hz]
    unfold backstepref10_Numbers.l0
    rw [if_neg (by omega), List.drop_eq_nil_of_le (by omega)]; simp [numsB]
  | r + 1, i, acc, h, ha => by
    have hi : i < l.length := by omega
    have ed : l.drop i = l[i] :: l.drop (i + 1) := List.drop_eq_getElem_cons hi
    have hp := upto (fun k => backstepref10_Number.mono l[i] k) (refnum_f l[i]) (show 9 ≤ r + 10 by omega)
    have ih := refnums_l0 l hl r (i + 1) (acc ++ bytesBE l[i] 8) (by omega) (by rw [List.length_append, bytesBE_length]; omega)
    rw [ed, show r + 1 + 10 = (r + 10) + 1 by omega]
    unfold backstepref10_Numbers.l0
    rw [if_pos (by omega), if_pos (by omega), rd_of hi, hp, Option.bind_some, if_pos (by rw [bytesBE_length]; omega), next_i (by omega), ih, List.append_assoc]; rfl
theorem two_bytes {n : Nat} (hn : n ≤ 100000) : [(wrap64 ((n : Int) / 256)) % 256, (n : Int) % 256] = bytesBE (n : Int) 2 := by
  have e1 : wrap64 ((n : Int) / 256) = (n : Int) / 256 := wrap64_of (by omega) (by omega)
  rw [e1]
  unfold bytesBE bytesBE bytesBE byteOf
  rw [u64_of]
  have p1 : (256 : Int) ^ 1 = 256 := by decide
  have p0 : (256 : Int) ^ 0 = 1 := by decide
  rw [p1, p0]
  have q1 : (n : Int) % 18446744073709551616 = (n : Int) := by omega
  rw [q1, Int.ediv_one]
theorem refnums_f (l : List Int) (hl : l.length ≤ 100000) (c : Bool) : backstepref10_Numbers.f (l.length + 11) l c = some (listB l c) := by
  unfold backstepref10_Numbers.f listB
  have hj : ∀ acc : List Int, acc.length ≤ 100 → backstepref10_Numbers.j0 (l.length + 11) l acc = some (acc ++ numsB l) := by
    intro acc ha
    have h0 := refnums_l0 l hl l.length 0 acc (by omega) (by omega)
    rw [show l.length + 11 = (l.length + 10) + 1 by omega, backstepref10_Numbers.j0]
    simpa using h0
  cases c
  · rw [if_neg (by simp), if_neg (by simp), hj [] (by simp)]
  · rw [if_pos rfl, if_pos rfl, Option.bind_some, if_pos (by simp), two_bytes (by omega), List.nil_append, hj _ (by rw [bytesBE_length]; omega)]
theorem refenc_l0 (l : List S44) (cs : List (List Int)) (i o : List Int) (hl : l.length ≤ 1000) (hc : cs.length = l.length) (hr : ∀ r ∈ cs, r.length ≤ 5000) (hi : i.length ≤ 5000) (ho : o.length ≤ 5000) :
    ∀ (r j : Nat) (acc : List Int), r + j = l.length → acc.length ≤ 100000 * j → backstepref10_Encode.l0 (r + 5020) l acc (j : Int) cs i o = some (acc ++ cellsB (l.drop j) (cs.drop j) ++ listB i true ++ listB o true)
  | 0, j, acc, h, ha => by
    have h1 := upto (fun k => backstepref10_Numbers.mono i true k) (refnums_f i (by omega) true) (show i.length + 11 ≤ 5019 by omega)
    have h2 := upto (fun k => backstepref10_Numbers.mono o true k) (refnums_f o (by omega) true) (show o.length + 11 ≤ 5019 by omega)
    have l1 := listB_len i true
    have l2 := listB_len o true
    obtain ⟨z, hz⟩ : ∃ z, z = 5019 := ⟨_, rfl⟩
    rw [← hz] at h1 h2
    rw [show 0 + 5020 = z + 1 by omega]
    unfold backstepref10_Encode.l0
    rw [if_neg (by omega), h1, Option.bind_some, if_pos (by omega), Option.bind_some, h2, Option.bind_some, if_pos (by rw [List.length_append]; omega), List.drop_eq_nil_of_le (by omega)]
    simp [cellsB]
  | r + 1, j, acc, h, ha => by
    have hj : j < l.length := by omega
    have hjc : j < cs.length := by omega
    have ed : l.drop j = l[j] :: l.drop (j + 1) := List.drop_eq_getElem_cons hj
    have ec : cs.drop j = cs[j] :: cs.drop (j + 1) := List.drop_eq_getElem_cons hjc
    have hrj := hr cs[j] (List.getElem_mem hjc)
    have h1 := upto (fun k => backstepref10_Numbers.mono cs[j] (l[j].f1 == 3) k) (refnums_f cs[j] (by omega) (l[j].f1 == 3)) (show cs[j].length + 11 ≤ r + 5020 by omega)
    have hlb := listB_len cs[j] (l[j].f1 == 3)
    have ih := refenc_l0 l cs i o hl hc hr hi ho r (j + 1) (acc ++ listB cs[j] (l[j].f1 == 3)) (by omega) (by rw [List.length_append]; omega)
    rw [ed, ec, show r + 1 + 5020 = (r + 5020) + 1 by omega]
    unfold backstepref10_Encode.l0
    rw [if_pos (by omega), if_pos (by omega), if_pos (by omega), rdT_of hj, rdL_of hjc, h1, Option.bind_some, if_pos (by omega), next_i (by omega), ih]
    simp [cellsB]
theorem refenc_f (l : List S44) (cs : List (List Int)) (i o : List Int) (hl : l.length ≤ 1000) (hc : cs.length = l.length) (hr : ∀ r ∈ cs, r.length ≤ 5000) (hi : i.length ≤ 5000) (ho : o.length ≤ 5000) :
    backstepref10_Encode.f (l.length + 5020) l cs i o = some (encB l cs i o) := by
  unfold backstepref10_Encode.f
  have := refenc_l0 l cs i o hl hc hr hi ho l.length 0 [] (by omega) (by simp)
  simpa [encB] using this
theorem fits_len {l : List S44} {cs : List (List Int)} {i o : List Int} (hf : fitsP l cs i o = true) : cs.length = l.length := by
  unfold fitsP at hf
  simp only [Bool.and_eq_true, decide_eq_true_eq] at hf
  omega
theorem cellsB_len : ∀ (l : List S44) (cs : List (List Int)), (∀ x ∈ cs, x.length ≤ 60) → (cellsB l cs).length ≤ 482 * cs.length
  | v :: l, c :: cs, h => by
    have h1 := listB_len c (v.f1 == 3)
    have h2 := h c List.mem_cons_self
    have h3 := cellsB_len l cs (fun x hx => h x (List.mem_cons_of_mem _ hx))
    simp only [cellsB, List.length_append, List.length_cons]
    omega
  | [], _, _ => by simp [cellsB]
  | _ :: _, [], _ => by simp [cellsB]
theorem encB_len (l : List S44) (cs : List (List Int)) (i o : List Int) (h : ∀ x ∈ cs, x.length ≤ 60) (hi : i.length ≤ 60) (ho : o.length ≤ 60) (hc : cs.length ≤ 40) : (encB l cs i o).length ≤ 30000 := by
  have h1 := cellsB_len l cs h
  have h2 := listB_len i true
  have h3 := listB_len o true
  unfold encB
  rw [List.length_append, List.length_append]
  omega
theorem decode_enc {l : List S44} {cs : List (List Int)} {i o bs : List Int} (hb : bs = encB l cs i o) (hf : fitsP l cs i o = true) (hx : ∀ c ∈ cs, ∀ x ∈ c, in64 x) (hi : ∀ x ∈ i, in64 x) (ho : ∀ x ∈ o, in64 x) (hl : l.length ≤ 1000) (hbl : bs.length ≤ 100000) :
    state_Decode.f (2 * l.length + 1) l bs = some (cs, i, o, 0) := by
  have hv : validP l = true := by
    unfold fitsP at hf
    simp only [Bool.and_eq_true] at hf
    exact hf.1.1.1.1
  have hv2 := hv
  unfold validP at hv2
  simp only [Bool.and_eq_true, decide_eq_true_eq, List.all_eq_true] at hv2
  unfold state_Decode.f
  rw [valid_f l (by omega), Option.bind_some, hv, if_pos, hb, dec_enc l cs i o hf hx hi ho]
  refine ⟨⟨hl, by omega, ?_⟩, fun _ => ?_⟩
  · rw [List.all_eq_true]
    intro x hx
    have := encB_areB l cs i o x (hb ▸ hx)
    simpa using this
  · rw [List.all_eq_true]
    intro v hvl
    have := hv2.1 v hvl
    unfold okVar at this
    simp only [Bool.or_eq_true, Bool.and_eq_true, decide_eq_true_eq] at this
    rw [decide_eq_true_eq]
    unfold mx
    split <;> omega
end Go.Proofs.Ytjphfhmkpknfaaa.PureE
