/- StateStarts' plain law. -/
import Derived.Test.YtjphfhmkpknfaaaPAllx12
import Derived.Test.YtjphfhmkpknfaaaPlain2
set_option linter.unusedVariables false
set_option linter.unusedSimpArgs false
namespace Go.Proofs.Ytjphfhmkpknfaaa.Pure
open Go.RowKit Go.Proofs.Ytjphfhmkpknfaaa.PAll Go.Proofs.YtjphfhmkpknfaaaW.PrintWords Go.Proofs.YtjphfhmkpknfaaaW.PrintLast Go.Proofs.YtjphfhmkpknfaaaW.PrintMore

/-- More rounds than there are cells to look at. -/
theorem starts_l1 (l : List S44) (a o : List Int) (hl : l.length ≤ 40) (hv : ∀ v ∈ l, okVar v = true) : ∀ (r i : Nat), r + i = l.length →
    ∃ K, backsteplaw10_StateStarts.l1 K l (i : Int) (l.map newCell) a o = some true
  | 0, i, h => ⟨1, by unfold backsteplaw10_StateStarts.l1; rw [if_neg (by omega)]⟩
  | r + 1, i, h => by
    obtain ⟨K, hK⟩ := starts_l1 l a o hl hv r (i + 1) (by omega)
    have hi : i < l.length := by omega
    have hic : i < (l.map newCell).length := by simpa using hi
    have hn := next_i (i := i) (by omega)
    have hcell : (l.map newCell)[i] = newCell l[i] := by simp
    have ho := hv l[i] (List.getElem_mem hi)
    unfold okVar at ho
    simp only [Bool.or_eq_true, Bool.and_eq_true, decide_eq_true_eq] at ho
    have hz : ∀ j : Nat, (h : j < (newCell l[i]).length) → (newCell l[i])[j] = 0 := by
      intro j h
      have : ∀ (c : List Int), c = newCell l[i] → ∀ h' : j < c.length, c[j] = 0 := by
        intro c hc h'
        unfold newCell at hc
        split at hc
        · subst hc; simp at h'
        · subst hc; simp
      exact this _ rfl h
    have hlen : (newCell l[i]).length ≤ 16 := by
      unfold newCell
      split
      · simp
      · have hm : mx l[i].f2 1 ≤ 16 := by unfold mx; split <;> omega
        simp; omega
    have l2 : ∀ (q j : Nat), q + j = (newCell l[i]).length → backsteplaw10_StateStarts.l2 (K + q + 1) l (i : Int) (j : Int) (l.map newCell) a o = some true := by
      intro q
      induction q with
      | zero =>
        intro j hj
        unfold backsteplaw10_StateStarts.l2
        rw [if_pos (by omega), if_pos (by omega), rdL_of hic, hcell, if_neg (by omega), hn, hK]
      | succ q ih =>
        intro j hj
        have hjl : j < (newCell l[i]).length := by omega
        have := ih (j + 1) (by omega)
        rw [show K + (q + 1) + 1 = (K + q + 1) + 1 by omega]
        unfold backsteplaw10_StateStarts.l2
        rw [if_pos (by omega), if_pos (by omega), rdL_of hic, hcell, if_pos (by omega), if_pos (by omega), rd_of hjl, hz j hjl, if_pos rfl, next_i (by omega), this]
    have h2 := l2 (newCell l[i]).length 0 (by omega)
    have h4 : ∀ b : Bool, b = false → backsteplaw10_StateStarts.j4 (K + (newCell l[i]).length + 1 + 1) l (i : Int) b (l.map newCell) a o = some true := by
      intro b hb
      obtain ⟨Z, hZ⟩ : ∃ Z, Z = K + (newCell l[i]).length + 1 := ⟨_, rfl⟩
      rw [← hZ] at h2 ⊢
      unfold backsteplaw10_StateStarts.j4
      rw [hb, if_neg (by simp)]; exact h2
    refine ⟨K + (newCell l[i]).length + 1 + 1 + 1, ?_⟩
    obtain ⟨Z, hZ⟩ : ∃ Z, Z = K + (newCell l[i]).length + 1 + 1 := ⟨_, rfl⟩
    rw [← hZ] at h4 ⊢
    unfold backsteplaw10_StateStarts.l1
    rw [if_pos (by omega), if_pos (by omega), rdT_of hi]
    by_cases c3 : l[i].f1 = 3
    · rw [if_pos c3, if_pos (by omega), rdL_of hic, hcell]
      have e : newCell l[i] = [] := by unfold newCell; rw [if_pos c3]
      exact h4 _ (by rw [e]; rfl)
    · rw [if_neg c3]; exact h4 _ rfl
theorem fitAll_new : ∀ l : List S44, (∀ v ∈ l, okVar v = true) → fitAll l (l.map newCell) = true
  | [], _ => rfl
  | v :: l, h => by
    have ih := fitAll_new l (fun x hx => h x (by simp [hx]))
    simp only [List.map_cons, fitAll, ih, Bool.and_true]
    unfold fitCell newCell
    by_cases c : v.f1 = 3
    · rw [if_pos c, if_pos c]; simp
    · rw [if_neg c, if_neg c]
      have hm : 1 ≤ mx v.f2 1 := by unfold mx; split <;> omega
      simp; omega
theorem starts_l0 (l : List S44) (a : List Int) (hl : l.length ≤ 40) (ha : a.length ≤ 60) (e : Int) (cs : List (List Int)) (i o : List Int)
    (hfin : ∀ own : List Int, ∃ K, ∀ k, K ≤ k → ∃ z, k = z + 1 ∧ backsteplaw10_StateStarts.l0 (z + 1) l a own e (own.length : Int) cs i o = some true) :
    ∀ (r j : Nat) (own : List Int), r + j = own.length → own.length ≤ 60 → ∃ K, backsteplaw10_StateStarts.l0 K l a own e (j : Int) cs i o = some true
  | 0, j, own, h, _ => by
    obtain ⟨K, hK⟩ := hfin own
    obtain ⟨z, hz, h1⟩ := hK K (Nat.le_refl _)
    exact ⟨z + 1, by rw [show (j : Int) = (own.length : Int) by omega]; exact h1⟩
  | r + 1, j, own, h, ho => by
    obtain ⟨K, hK⟩ := starts_l0 l a hl ha e cs i o hfin r (j + 1) (own.set (j : Int).toNat (wrap64 ((rd own j) + 1))) (by simp; omega) (by simpa using ho)
    refine ⟨K + 1, ?_⟩
    unfold backsteplaw10_StateStarts.l0
    rw [if_pos (by omega), if_pos (by omega), next_i (by omega)]
    exact hK
theorem starts_end (l : List S44) (a : List Int) (hl : l.length ≤ 40) (ha : a.length ≤ 60) (own : List Int) :
    ∃ K, ∀ k, K ≤ k → ∃ z, k = z + 1 ∧ (if validP l = true then backsteplaw10_StateStarts.l0 (z + 1) l a own 0 (own.length : Int) (l.map newCell) a [] = some true
      else backsteplaw10_StateStarts.l0 (z + 1) l a own 3 (own.length : Int) [] [] [] = some true) := by
  by_cases hvp : validP l = true
  · have hall : ∀ v ∈ l, okVar v = true := by
      unfold validP at hvp
      simp only [Bool.and_eq_true, List.all_eq_true] at hvp
      exact hvp.1
    obtain ⟨K1, hK1⟩ := starts_l1 l a [] hl hall l.length 0 (by omega)
    have hfp : fitsP l (l.map newCell) a [] = true := by
      unfold fitsP
      rw [hvp, fitAll_new l hall]; simp; omega
    refine ⟨K1 + 2 * l.length + a.length + 10, fun k hk => ⟨k - 1, by omega, ?_⟩⟩
    rw [if_pos hvp]
    obtain ⟨z, hz⟩ : ∃ z, z = k - 1 := ⟨_, rfl⟩
    rw [← hz]
    have h1 := upto (fun k => backstepref10_Valid.mono l k) (refvalid_f l (by omega)) (show l.length + 1 ≤ z by omega)
    have h2 := upto (fun k => state_Fits.mono l (l.map newCell) a [] k) (fits_f l (l.map newCell) a [] (by omega)) (show _ ≤ z by omega)
    have h3 := upto (fun k => backstepref10_Fits.mono l (l.map newCell) a [] k) (reffits_f l (l.map newCell) a [] (by omega)) (show _ ≤ z by omega)
    have h4 := upto (fun k => backstepref10_Ints.mono a a k) (ints_f a a (by omega)) (show _ ≤ z by omega)
    unfold backsteplaw10_StateStarts.l0
    rw [if_neg (by omega), h1, Option.bind_some, if_pos hvp, if_pos rfl, h2, Option.bind_some, if_pos hfp, h3, Option.bind_some, if_pos hfp, h4, Option.bind_some, if_pos (by simp)]
    obtain ⟨y, hy⟩ : ∃ y, z = y + 1 := ⟨z - 1, by omega⟩
    have h5 := upto (fun k => (backsteplaw10_StateStarts.mono_l k).2.2.2.1 l 0 (l.map newCell) a []) hK1 (show K1 ≤ y by omega)
    rw [hy]
    rw [backsteplaw10_StateStarts.j2]
    rw [if_neg (by simp)]
    exact h5
  · refine ⟨l.length + 20, fun k hk => ⟨k - 1, by omega, ?_⟩⟩
    rw [if_neg hvp]
    obtain ⟨z, hz⟩ : ∃ z, z = k - 1 := ⟨_, rfl⟩
    rw [← hz]
    have h1 := upto (fun k => backstepref10_Valid.mono l k) (refvalid_f l (by omega)) (show l.length + 1 ≤ z by omega)
    have h2' : backstepref10_Equal.f 5 [] [] [] [] [] [] = some true := by decide +kernel
    have h2 := upto (fun k => backstepref10_Equal.mono [] [] [] [] [] [] k) h2' (show 5 ≤ z by omega)
    unfold backsteplaw10_StateStarts.l0
    rw [if_neg (by omega), h1, Option.bind_some, if_neg hvp, if_pos rfl, h2]; rfl
theorem StateStarts (l : List S44) (a : List Int) (hl9 : (l.length : Int) ≤ 9223372036854775807) : ∃ k, backsteplaw10_StateStarts.f k l a = some true := by
  have key : ∃ K, 300 ≤ K ∧ backsteplaw10_StateStarts.j0 (K + 1) l a (decide (40 < l.length ∨ 60 < a.length)) = some true := by
    by_cases hc : 40 < l.length ∨ 60 < a.length
    · obtain ⟨K, hK⟩ : ∃ K, K = 300 := ⟨_, rfl⟩
      refine ⟨K, by omega, ?_⟩
      rw [backsteplaw10_StateStarts.j0]
      rw [decide_eq_true hc, if_pos rfl]
    · have hn := new_f l a (by omega) (by omega)
      have : ∃ K, ∀ k, K ≤ k → backsteplaw10_StateStarts.l0 k l a a (if validP l = true then 0 else 3) 0 (if validP l = true then l.map newCell else []) (if validP l = true then a else []) [] = some true := by
        obtain ⟨K, hK⟩ := starts_l0 l a (by omega) (by omega) (if validP l = true then 0 else 3) (if validP l = true then l.map newCell else []) (if validP l = true then a else []) [] (fun own => by
          obtain ⟨K, hK⟩ := starts_end l a (by omega) (by omega) own
          refine ⟨K, fun k hk => ?_⟩
          obtain ⟨z, hz, h⟩ := hK k hk
          refine ⟨z, hz, ?_⟩
          by_cases hvp : validP l = true
          · rw [if_pos hvp] at h; simpa [hvp] using h
          · rw [if_neg hvp] at h; simpa [hvp] using h) a.length 0 a (by omega) (by omega)
        exact ⟨K, fun k hk => upto (fun k => (backsteplaw10_StateStarts.mono_l k).2.1 l a a _ 0 _ _ []) hK hk⟩
      obtain ⟨K1, hK1⟩ := this
      obtain ⟨K, hK⟩ : ∃ K, K = K1 + 2 * l.length + 300 := ⟨_, rfl⟩
      refine ⟨K, by omega, ?_⟩
      have hn' : state_New.f K l a = if validP l = true then some (l.map newCell, a, [], 0) else some ([], [], [], 3) := by
        by_cases hvp : validP l = true
        · rw [if_pos hvp] at hn ⊢
          exact upto (fun k => state_New.mono l a k) hn (by omega)
        · rw [if_neg hvp] at hn ⊢
          exact upto (fun k => state_New.mono l a k) hn (by omega)
      have h6 := hK1 K (by omega)
      rw [backsteplaw10_StateStarts.j0]
      rw [decide_eq_false hc, if_neg (by simp)]
      simp only [Option.bind_some, List.nil_append, List.length_nil]
      rw [if_pos (by omega), hn']
      by_cases hvp : validP l = true
      · rw [if_pos hvp, Option.bind_some]; simpa [hvp] using h6
      · rw [if_neg hvp, Option.bind_some]; simpa [hvp] using h6
  obtain ⟨K, hK0, hK⟩ := key
  refine ⟨K + 1, ?_⟩
  have ha := upto (fun k => backsteplaw10_awake.mono k) awake_ok (show 300 ≤ K + 1 by omega)
  unfold backsteplaw10_StateStarts.f
  rw [ha, Option.bind_some, if_pos rfl]
  by_cases c : (l.length : Int) > 40
  · rw [if_pos c]
    rw [decide_eq_true (show 40 < l.length ∨ 60 < a.length by omega)] at hK; exact hK
  · rw [if_neg c]
    have e : decide ((a.length : Int) > 60) = decide (40 < l.length ∨ 60 < a.length) := by apply decide_eq_decide.2; omega
    rw [e]; exact hK
end Go.Proofs.Ytjphfhmkpknfaaa.Pure
