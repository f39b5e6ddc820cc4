/- Plain laws of chapter 10's functions: Fits, the reference's Fits and Ints, New. -/
import Derived.Test.YtjphfhmkpknfaaaPlain
import Derived.Test.YtjphfhmkpknfaaaPAllx7
import Derived.Test.YtjphfhmkpknfaaaPAllx9
set_option linter.unusedVariables false
set_option linter.unusedSimpArgs false
namespace Go.Proofs.Ytjphfhmkpknfaaa.Pure
open Go.RowKit Go.Proofs.Ytjphfhmkpknfaaa.PAll Go.Proofs.YtjphfhmkpknfaaaW.PrintWords Go.Proofs.YtjphfhmkpknfaaaW.PrintLast Go.Proofs.YtjphfhmkpknfaaaW.PrintMore

/-- Whether a cell slice fits a declaration. -/
def fitCell (v : S44) (c : List Int) : Bool := if v.f1 = 3 then decide ((c.length : Int) ≤ 1000) else decide ((c.length : Int) = mx v.f2 1)
def fitAll : List S44 → List (List Int) → Bool
  | v :: vs, c :: cs => fitCell v c && fitAll vs cs
  | _, _ => true
def fitsP (l : List S44) (cs : List (List Int)) (i o : List Int) : Bool :=
  validP l && decide ((cs.length : Int) = (l.length : Int)) && decide ((i.length : Int) ≤ 4096) && decide ((o.length : Int) ≤ 4096) && fitAll l cs
theorem fits_l0 (l : List S44) (cs : List (List Int)) (a b : List Int) (hl : l.length ≤ 1000000) (hc : cs.length = l.length) : ∀ (r i : Nat), r + i = l.length → state_Fits.l0 (r + 1) l (l.length : Int) (i : Int) cs a b = some (fitAll (l.drop i) (cs.drop i))
  | 0, i, h => by
    unfold state_Fits.l0
    rw [if_neg (by omega), List.drop_eq_nil_of_le (by omega)]; simp [fitAll]
  | r + 1, i, h => by
    have hi : i < l.length := by omega
    have hic : i < cs.length := by omega
    have ed : l.drop i = l[i] :: l.drop (i + 1) := List.drop_eq_getElem_cons hi
    have ec : cs.drop i = cs[i] :: cs.drop (i + 1) := List.drop_eq_getElem_cons hic
    have ih := fits_l0 l cs a b hl hc r (i + 1) (by omega)
    have hn := next_i (i := i) (by omega)
    rw [ed, ec]
    unfold state_Fits.l0
    rw [if_pos (by omega), if_pos (by omega), if_pos (by omega), if_pos (by omega), rdT_of hi, rdL_of hic, hn, ih]
    simp only [fitAll, fitCell, state_size.f, Option.bind_some]
    by_cases c1 : l[i].f1 = 3
    · rw [if_pos c1, if_pos c1]
      by_cases c2 : (cs[i].length : Int) > 1000
      · rw [if_pos c2, decide_eq_false (by omega)]; simp
      · rw [if_neg c2, decide_eq_true (by omega)]; simp
    · rw [if_neg c1, if_neg c1]
      by_cases c2 : (cs[i].length : Int) = mx l[i].f2 1
      · rw [if_pos c2, decide_eq_true c2]; simp
      · rw [if_neg c2, decide_eq_false c2]; simp
theorem reffits_l0 (l : List S44) (cs : List (List Int)) (a b : List Int) (hl : l.length ≤ 1000000) (hc : cs.length = l.length) (hv : ∀ v ∈ l, okVar v = true) : ∀ (r i : Nat), r + i = l.length → backstepref10_Fits.l0 (r + 1) l (i : Int) cs a b = some (fitAll (l.drop i) (cs.drop i))
  | 0, i, h => by
    unfold backstepref10_Fits.l0
    rw [if_neg (by omega), List.drop_eq_nil_of_le (by omega)]; simp [fitAll]
  | r + 1, i, h => by
    have hi : i < l.length := by omega
    have hic : i < cs.length := by omega
    have ed : l.drop i = l[i] :: l.drop (i + 1) := List.drop_eq_getElem_cons hi
    have ec : cs.drop i = cs[i] :: cs.drop (i + 1) := List.drop_eq_getElem_cons hic
    have ih := reffits_l0 l cs a b hl hc hv r (i + 1) (by omega)
    have hn := next_i (i := i) (by omega)
    have ho := hv l[i] (List.getElem_mem hi)
    unfold okVar at ho
    simp only [Bool.or_eq_true, Bool.and_eq_true, decide_eq_true_eq] at ho
    rw [ed, ec]
    unfold backstepref10_Fits.l0
    rw [if_pos (by omega), if_pos (by omega), if_pos (by omega), rdT_of hi, rdL_of hic, hn, ih]
    simp only [fitAll, fitCell]
    by_cases c1 : l[i].f1 = 1
    · have c2 : ¬ l[i].f1 = 2 := by omega
      have c3 : ¬ l[i].f1 = 3 := by omega
      have c4 : l[i].f2 = 0 := by omega
      rw [if_pos c1, if_neg c2, if_neg c3, c4]
      have e : mx 0 1 = 1 := by decide
      rw [e]
      by_cases c5 : (cs[i].length : Int) = 1
      · rw [if_pos c5, if_neg (by omega), decide_eq_true c5]; simp
      · rw [if_neg c5, decide_eq_false c5]; simp
    · rw [if_neg c1]
      by_cases c2 : l[i].f1 = 2
      · have c3 : ¬ l[i].f1 = 3 := by omega
        have e : mx l[i].f2 1 = l[i].f2 := by unfold mx; rw [if_neg (by omega)]
        rw [if_pos c2, if_neg c3, e]
        by_cases c5 : (cs[i].length : Int) = l[i].f2
        · rw [if_pos c5, if_neg (by omega), decide_eq_true c5]; simp
        · rw [if_neg c5, decide_eq_false c5]; simp
      · have c3 : l[i].f1 = 3 := by omega
        rw [if_neg c2, if_pos c3]
        by_cases c5 : (cs[i].length : Int) > 1000
        · rw [if_pos c5, decide_eq_false (by omega)]; simp
        · rw [if_neg c5, decide_eq_true (by omega)]; simp
theorem fits_j0t (k : Nat) (l : List S44) (cs : List (List Int)) (a b : List Int) : state_Fits.j0 (k + 1) l true cs a b = some false := by rw [state_Fits.j0, if_pos rfl]
theorem fits_j0f (k : Nat) (l : List S44) (cs : List (List Int)) (a b : List Int) : state_Fits.j0 (k + 1) l false cs a b = state_Fits.l0 k l (l.length : Int) 0 cs a b := by rw [state_Fits.j0, if_neg (by simp)]
theorem reffits_j0t (k : Nat) (l : List S44) (cs : List (List Int)) (a b : List Int) : backstepref10_Fits.j0 (k + 1) l true cs a b = some false := by rw [backstepref10_Fits.j0, if_pos rfl]
theorem reffits_j0f (k : Nat) (l : List S44) (cs : List (List Int)) (a b : List Int) : backstepref10_Fits.j0 (k + 1) l false cs a b = backstepref10_Fits.l0 k l 0 cs a b := by rw [backstepref10_Fits.j0, if_neg (by simp)]
theorem fits_f (l : List S44) (cs : List (List Int)) (a b : List Int) (hl : l.length ≤ 1000000) : state_Fits.f (2 * l.length + 2) l cs a b = some (fitsP l cs a b) := by
  have hv := upto (fun k => state_valid.mono l k) (valid_f l hl) (show 2 * l.length + 1 ≤ 2 * l.length + 2 by omega)
  obtain ⟨K, hK⟩ : ∃ K, K = 2 * l.length + 1 := ⟨_, rfl⟩
  unfold state_Fits.f fitsP
  rw [hv, Option.bind_some, show 2 * l.length + 2 = K + 1 by omega]
  cases hvp : validP l
  · rw [if_neg (by simp), fits_j0t]; simp
  · rw [if_pos rfl]
    by_cases c1 : (cs.length : Int) = (l.length : Int)
    · rw [if_pos c1, decide_eq_true c1]
      by_cases c2 : (a.length : Int) > 4096
      · rw [if_pos c2, fits_j0t, decide_eq_false (show ¬ (a.length : Int) ≤ 4096 by omega)]; simp
      · rw [if_neg c2, decide_eq_true (show (a.length : Int) ≤ 4096 by omega)]
        by_cases c3 : (b.length : Int) > 4096
        · rw [decide_eq_true c3, fits_j0t, decide_eq_false (show ¬ (b.length : Int) ≤ 4096 by omega)]; simp
        · have h0 := fits_l0 l cs a b hl (by omega) l.length 0 (by omega)
          have h0' := upto (fun k => (state_Fits.mono_l k).2 l (l.length : Int) 0 cs a b) h0 (show l.length + 1 ≤ K by omega)
          rw [decide_eq_false c3, fits_j0f, decide_eq_true (show (b.length : Int) ≤ 4096 by omega), h0']; simp
    · rw [if_neg c1, fits_j0t, decide_eq_false c1]; simp
theorem reffits_f (l : List S44) (cs : List (List Int)) (a b : List Int) (hl : l.length ≤ 1000000) : backstepref10_Fits.f (2 * l.length + 2) l cs a b = some (fitsP l cs a b) := by
  have hv := upto (fun k => backstepref10_Valid.mono l k) (refvalid_f l hl) (show l.length + 1 ≤ 2 * l.length + 2 by omega)
  obtain ⟨K, hK⟩ : ∃ K, K = 2 * l.length + 1 := ⟨_, rfl⟩
  unfold backstepref10_Fits.f fitsP
  rw [hv, Option.bind_some, show 2 * l.length + 2 = K + 1 by omega]
  cases hvp : validP l
  · rw [if_neg (by simp), reffits_j0t]; simp
  · rw [if_pos rfl]
    by_cases c1 : (cs.length : Int) = (l.length : Int)
    · rw [if_pos c1, decide_eq_true c1]
      by_cases c2 : (a.length : Int) > 4096
      · rw [if_pos c2, reffits_j0t, decide_eq_false (show ¬ (a.length : Int) ≤ 4096 by omega)]; simp
      · rw [if_neg c2, decide_eq_true (show (a.length : Int) ≤ 4096 by omega)]
        by_cases c3 : (b.length : Int) > 4096
        · rw [decide_eq_true c3, reffits_j0t, decide_eq_false (show ¬ (b.length : Int) ≤ 4096 by omega)]; simp
        · have hall : ∀ v ∈ l, okVar v = true := by
            unfold validP at hvp
            simp only [Bool.and_eq_true, List.all_eq_true] at hvp
            exact hvp.1
          have h0 := reffits_l0 l cs a b hl (by omega) hall l.length 0 (by omega)
          have h0' := upto (fun k => (backstepref10_Fits.mono_l k).2 l 0 cs a b) h0 (show l.length + 1 ≤ K by omega)
          rw [decide_eq_false c3, reffits_j0f, decide_eq_true (show (b.length : Int) ≤ 4096 by omega), h0']; simp
    · rw [if_neg c1, reffits_j0t, decide_eq_false c1]; simp
/-- Two lists of numbers compared. -/
theorem ints_l0 (a b : List Int) (hl : a.length ≤ 1000000) (he : a.length = b.length) : ∀ (r i : Nat), r + i = a.length → backstepref10_Ints.l0 (r + 1) a b (i : Int) = some (decide (a.drop i = b.drop i))
  | 0, i, h => by
    unfold backstepref10_Ints.l0
    rw [if_neg (by omega), List.drop_eq_nil_of_le (by omega), List.drop_eq_nil_of_le (by omega)]; simp
  | r + 1, i, h => by
    have hi : i < a.length := by omega
    have hi2 : i < b.length := by omega
    have e1 : a.drop i = a[i] :: a.drop (i + 1) := List.drop_eq_getElem_cons hi
    have e2 : b.drop i = b[i] :: b.drop (i + 1) := List.drop_eq_getElem_cons hi2
    have ih := ints_l0 a b hl he r (i + 1) (by omega)
    rw [e1, e2]
    unfold backstepref10_Ints.l0
    rw [if_pos (by omega), if_pos (by omega), if_pos (by omega), rd_of hi, rd_of hi2, next_i (by omega), ih]
    by_cases c : a[i] = b[i]
    · rw [if_pos c]
      exact congrArg some (decide_eq_decide.2 ⟨fun h => by rw [c, h], fun h => (List.cons.inj h).2⟩)
    · rw [if_neg c]
      exact congrArg some (decide_eq_false (fun h => c (List.cons.inj h).1)).symm
theorem ints_f (a b : List Int) (hl : a.length ≤ 1000000) : backstepref10_Ints.f (a.length + 1) a b = some (decide (a = b)) := by
  unfold backstepref10_Ints.f
  by_cases c : (a.length : Int) = (b.length : Int)
  · rw [if_pos c]
    simpa using ints_l0 a b hl (by omega) a.length 0 (by omega)
  · rw [if_neg c, decide_eq_false]
    rintro rfl; exact c rfl
/-- New. -/
def newCell (v : S44) : List Int := if v.f1 = 3 then [] else List.replicate (mx v.f2 1).toNat 0
theorem new_l0 (l : List S44) (hl : l.length ≤ 1000000) (hv : ∀ v ∈ l, okVar v = true) (a : List Int) : ∀ (r i : Nat) (acc : List (List Int)), r + i = l.length → acc.length ≤ i → state_New.l0 (r + 1) l (l.length : Int) (i : Int) acc a = some (acc ++ (l.drop i).map newCell, a, [], 0)
  | 0, i, acc, h, ha => by
    unfold state_New.l0
    rw [if_neg (by omega), List.drop_eq_nil_of_le (by omega)]; simp
  | r + 1, i, acc, h, ha => by
    have hi : i < l.length := by omega
    have ed : l.drop i = l[i] :: l.drop (i + 1) := List.drop_eq_getElem_cons hi
    have ih := new_l0 l hl hv a r (i + 1) (acc ++ [newCell l[i]]) (by omega) (by simp; omega)
    have hn := next_i (i := i) (by omega)
    have ho := hv l[i] (List.getElem_mem hi)
    unfold okVar at ho
    simp only [Bool.or_eq_true, Bool.and_eq_true, decide_eq_true_eq] at ho
    rw [ed]
    unfold state_New.l0
    rw [if_pos (by omega), if_pos (by omega), if_pos (by omega), rdT_of hi, hn]
    by_cases c3 : l[i].f1 = 3
    · have e : newCell l[i] = [] := by unfold newCell; rw [if_pos c3]
      rw [e] at ih
      rw [if_pos c3, if_pos (by omega), ih, List.map_cons, e, List.append_assoc]; rfl
    · have e : newCell l[i] = List.replicate (mx l[i].f2 1).toNat 0 := by unfold newCell; rw [if_neg c3]
      have hm : 1 ≤ mx l[i].f2 1 ∧ mx l[i].f2 1 ≤ 16 := by unfold mx; split <;> omega
      rw [e] at ih
      rw [if_neg c3]
      simp only [state_size.f, Option.bind_some]
      rw [if_pos (by omega), if_pos (by omega), if_pos (by omega), ih, List.map_cons, e, List.append_assoc]; rfl
theorem new_f (l : List S44) (a : List Int) (hl : l.length ≤ 1000000) (ha : a.length ≤ 4096) : state_New.f (2 * l.length + 1) l a = if validP l = true then some (l.map newCell, a, [], 0) else some ([], [], [], 3) := by
  unfold state_New.f
  rw [valid_f l hl, Option.bind_some]
  cases hvp : validP l
  · rw [if_neg (by simp), if_neg (by simp)]
  · have hall : ∀ v ∈ l, okVar v = true := by
      unfold validP at hvp
      simp only [Bool.and_eq_true, List.all_eq_true] at hvp
      exact hvp.1
    rw [if_pos rfl, if_pos rfl, if_neg (by omega)]
    unfold slices_Clone_int_int.f
    rw [if_pos (by omega), Option.bind_some]
    have h0 := new_l0 l hl hall a l.length 0 [] (by omega) (by simp)
    have h0' := upto (fun k => state_New.mono_l k l (l.length : Int) 0 [] a) h0 (show l.length + 1 ≤ 2 * l.length + 1 by omega)
    rw [h0']; simp
end Go.Proofs.Ytjphfhmkpknfaaa.Pure
