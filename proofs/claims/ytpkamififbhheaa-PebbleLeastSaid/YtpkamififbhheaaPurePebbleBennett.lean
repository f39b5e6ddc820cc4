/- PebbleBennett's plain law: the reference's loops come to the strategy. -/
import Derived.Test.YtpkamififbhheaaPAllx3
import Derived.Test.YtpkamififbhheaaMon
namespace Go.Proofs.Ytpkamififbhheaa.Pure
open Go.RowKit Go.Proofs.Ytpkamififbhheaa.PAll Go.Proofs.YtpkamififbhheaaW.PrintWords Go.Proofs.YtpkamififbhheaaW.PrintLast

theorem rd_L1_of {L : List (List Int)} {i : Nat} (h : i < L.length) : rd_L1 L (i : Int) = L[i] := by
  unfold rd_L1; simp [h]
theorem ref_l1 (L : List (List Int)) (hL : L.length ≤ 262144) (hf : L.flatten.length ≤ 262144) : ∀ (i : Nat) (out : List Int), i ≤ L.length → out.length + (L.take i).flatten.length ≤ 1099511627776 →
    ∃ K, backstepref44_Bennett.l1 K L out ((i : Int) - 1) = some (out ++ (((L.take i).reverse).map negRev).flatten)
  | 0, out, _, _ => ⟨1, by simp [backstepref44_Bennett.l1]⟩
  | i + 1, out, hi, ho => by
    have hg : i < L.length := by omega
    have e1 : L.take (i + 1) = L.take i ++ [L[i]] := by rw [List.take_add_one]; simp [hg]
    have hfl : L[i].length ≤ L.flatten.length := by
      have := (List.sublist_flatten_of_mem (List.getElem_mem hg)).length_le
      exact this
    rw [e1] at ho ⊢
    simp only [List.flatten_append, List.length_append, List.flatten_cons, List.flatten_nil, List.append_nil] at ho
    obtain ⟨K, hK⟩ := ref_l1 L hL hf i (out ++ negRev L[i]) (by omega) (by simp only [List.length_append, negRev_length]; omega)
    have hI := ref_inverse L[i] (by omega)
    have hw : wrap64 ((i : Int) - 1) = (i : Int) - 1 := wrap64_of (by omega) (by omega)
    have he : (((i + 1 : Nat) : Int) - 1) = (i : Int) := by omega
    refine ⟨max K (L[i].length + 1) + 1, ?_⟩
    have hK2 := upto (fun k => (backstepref44_Bennett.mono_l k).2.2.2 L (out ++ negRev L[i]) ((i : Int) - 1)) hK (Nat.le_max_left K (L[i].length + 1))
    have hI2 := upto (fun k => backstepref44_Inverse.mono L[i] k) hI (Nat.le_max_right K (L[i].length + 1))
    unfold backstepref44_Bennett.l1
    rw [he, if_pos (by omega), if_pos (by omega), if_pos (by omega), rd_L1_of hg, hI2, Option.bind_some, if_pos (by rw [negRev_length]; omega), hw, hK2]
    simp only [List.reverse_append, List.reverse_cons, List.reverse_nil, List.nil_append, List.map_append, List.map_cons, List.map_nil, List.flatten_append, List.flatten_cons, List.flatten_nil, List.append_nil, List.append_assoc]
theorem ref_l0 (b m p : Int) (f : Nat) (n : Nat) (a0 : Int) (hp : 2 ≤ p) (hpm : p ≤ m) (hm : m ≤ 512) (ha0 : 0 ≤ a0) (ha1 : a0 + m ≤ 1000)
    (hrec : ∀ a s, 0 ≤ a → a + s ≤ 1000 → 1 ≤ s → s < m → ∃ K, backstepref44_Bennett.f K a s b = some (strat b f a s)) :
    ∀ (r : Nat) (i : Int) (L : List (List Int)), 0 ≤ i → i + r = p → L.length = i.toNat → (L ++ bparts (strat b f) m p r i (a0 + offAt m p i)).flatten.length ≤ 262144 →
      ∃ K, backstepref44_Bennett.l0 K (a0 + offAt m p i) m b p L L.flatten i =
        some ((L ++ bparts (strat b f) m p r i (a0 + offAt m p i)).flatten ++ (((L ++ bparts (strat b f) m p r i (a0 + offAt m p i)).dropLast.reverse).map negRev).flatten)
  | 0, i, L, hi, hr, hL, hlen => by
    simp only [bparts, List.append_nil] at hlen ⊢
    have e1 : L.dropLast = L.take (L.length - 1) := List.dropLast_eq_take
    obtain ⟨K, hK⟩ := ref_l1 L (by omega) hlen (L.length - 1) L.flatten (by omega) (by
      have := dropLast_len L
      rw [e1] at this; omega)
    refine ⟨K + 1, ?_⟩
    unfold backstepref44_Bennett.l0
    have e2 : wrap64 (p - 2) = ((L.length - 1 : Nat) : Int) - 1 := by rw [wrap64_of (by omega) (by omega)]; omega
    rw [if_neg (by omega), e2, hK, e1]
  | r + 1, i, L, hi, hr, hL, hlen => by
    have hb0 := offAt_bd (m := m) (p := p) (i := i) hi (by omega) (by omega) (by omega)
    have hb1 := offAt_bd (m := m) (p := p) (i := i + 1) (by omega) (by omega) (by omega) (by omega)
    have hs := offAt_succ m p i
    have hsb := sizeAt_bd (m := m) (p := p) (i := i) hi hp hpm
    have e0 : a0 + offAt m p i + sizeAt m p i = a0 + offAt m p (i + 1) := by omega
    simp only [bparts] at hlen ⊢
    rw [e0] at hlen ⊢
    obtain ⟨K1, hK1⟩ := hrec (a0 + offAt m p i) (sizeAt m p i) (by omega) (by omega) hsb.1 hsb.2
    obtain ⟨K2, hK2⟩ := ref_l0 b m p f n a0 hp hpm hm ha0 ha1 hrec r (i + 1) (L ++ [strat b f (a0 + offAt m p i) (sizeAt m p i)]) (by omega) (by omega) (by simp; omega) (by simpa using hlen)
    refine ⟨max K1 K2 + 1, ?_⟩
    have hK1' := upto (fun k => (backstepref44_Bennett.mono_l k).1 (a0 + offAt m p i) (sizeAt m p i) b) hK1 (Nat.le_max_left K1 K2)
    have hK2' := upto (fun k => (backstepref44_Bennett.mono_l k).2.2.1 (a0 + offAt m p (i + 1)) m b p (L ++ [strat b f (a0 + offAt m p i) (sizeAt m p i)]) (L ++ [strat b f (a0 + offAt m p i) (sizeAt m p i)]).flatten (i + 1)) hK2 (Nat.le_max_right K1 K2)
    simp only [List.flatten_append, List.length_append, List.flatten_cons] at hlen
    have ed : Int.tdiv m p = m / p := Int.tdiv_eq_ediv_of_nonneg (by omega)
    have em : Int.tmod m p = m % p := Int.tmod_eq_emod_of_nonneg (by omega)
    have hq0 : 0 ≤ m / p := Int.ediv_nonneg (by omega) (by omega)
    have hq1 : m / p ≤ m := Int.ediv_le_self _ (by omega)
    have ei : wrap64 (i + 1) = i + 1 := wrap64_of (by omega) (by omega)
    have eq : wrap64 (m / p) = m / p := wrap64_of (by omega) (by omega)
    have eq1 : wrap64 (m / p + 1) = m / p + 1 := wrap64_of (by omega) (by omega)
    unfold backstepref44_Bennett.l0
    rw [if_pos (by omega), if_neg (by omega), ed, em, eq, eq1, ei]
    have hsz : sizeAt m p i = if i < m % p then m / p + 1 else m / p := rfl
    by_cases hc : i < m % p
    · rw [if_pos hc] at hsz ⊢
      rw [← hsz, hK1', Option.bind_some, if_pos (by omega), if_pos (by omega), wrap64_of (by omega) (by omega), e0]
      simp only [List.flatten_append, List.flatten_cons, List.flatten_nil, List.append_nil, List.append_assoc, List.singleton_append] at hK2' ⊢
      exact hK2'
    · rw [if_neg hc] at hsz ⊢
      rw [← hsz, hK1', Option.bind_some, if_pos (by omega), if_pos (by omega), wrap64_of (by omega) (by omega), e0]
      simp only [List.flatten_append, List.flatten_cons, List.flatten_nil, List.append_nil, List.append_assoc, List.singleton_append] at hK2' ⊢
      exact hK2'
theorem ref_bennett (b : Int) (hb : 2 ≤ b) : ∀ (f : Nat) (a m : Int), 0 ≤ a → a + m ≤ 1000 → 1 ≤ m → m ≤ 512 → m ≤ f → ∃ K, backstepref44_Bennett.f K a m b = some (strat b f a m)
  | 0, a, m, _, _, _, _, h => by omega
  | f + 1, a, m, ha, ham, h1, h2, h3 => by
    by_cases hm1 : m = 1
    · refine ⟨1, ?_⟩
      unfold backstepref44_Bennett.f strat
      rw [if_pos hm1, if_pos hm1, wrap64_of (by omega) (by omega)]
    · obtain ⟨p, hp⟩ : ∃ p, p = (if b < m then b else m) := ⟨_, rfl⟩
      have hp2 : 2 ≤ p := by rw [hp]; split <;> omega
      have hpm : p ≤ m := by rw [hp]; split <;> omega
      have hsh := strat_short b hb (f + 1) a m h1 h2
      have hst : strat b (f + 1) a m = (bparts (strat b f) m p p.toNat 0 a).flatten ++ (((bparts (strat b f) m p p.toNat 0 a).dropLast).reverse.map negRev).flatten := by
        conv => lhs; unfold strat
        rw [if_neg hm1, ← hp]
      rw [hst] at hsh ⊢
      have hl : (bparts (strat b f) m p p.toNat 0 a).flatten.length ≤ 262144 := by rw [List.length_append] at hsh; omega
      have e0 := offAt_zero (m := m) (p := p) (by omega)
      obtain ⟨K, hK⟩ := ref_l0 b m p f 0 a hp2 hpm h2 ha ham (fun a' s ha' has hs1 hs2 => ref_bennett b hb f a' s ha' has hs1 (by omega) (by omega)) p.toNat 0 [] (by omega) (by omega) (by simp) (by rw [e0]; simpa using hl)
      rw [e0] at hK
      refine ⟨K + 2, ?_⟩
      unfold backstepref44_Bennett.f
      rw [if_neg hm1]
      have hj : backstepref44_Bennett.j0 (K + 1) a m b p = some ((bparts (strat b f) m p p.toNat 0 a).flatten ++ (((bparts (strat b f) m p p.toNat 0 a).dropLast).reverse.map negRev).flatten) := by
        unfold backstepref44_Bennett.j0
        simpa using hK
      by_cases hc : m < b
      · rw [if_pos hc]
        have : p = m := by rw [hp, if_neg (by omega)]
        rw [this] at hj; rw [this]; exact hj
      · rw [if_neg hc]
        have : p = b := by rw [hp]; split <;> omega
        rw [this] at hj; rw [this]; exact hj
theorem bennett_f {n k : Int} (h1 : 1 ≤ n) (h2 : n ≤ 500) (h3 : 2 ≤ k) (h4 : k ≤ 500) : pebble_Bennett.f n k = some (strat k n.toNat 0 n, 0) := by
  unfold pebble_Bennett.f
  have := strat_short k h3 n.toNat 0 n h1 (by omega)
  rw [if_neg (by omega), if_pos (by omega)]
theorem bennett_out {n k : Int} (h : n < 1 ∨ 500 < n ∨ k < 2 ∨ 500 < k) : pebble_Bennett.f n k = some ([], 2) := by
  unfold pebble_Bennett.f
  rw [if_pos h]
theorem j1_out (K : Nat) (a0 a1 : Int) : backsteplaw44_PebbleBennett.j1 (K + 1) a0 a1 [] 2 true = some true := rfl
theorem j1_in (K : Nat) (a0 a1 : Int) (l : List Int) (h1 : backstepref44_Bennett.f K 0 a0 a1 = some l) (h2 : backsteplaw44_ints.f K l l = some true) : backsteplaw44_PebbleBennett.j1 (K + 1) a0 a1 l 0 false = some true := by
  rw [backsteplaw44_PebbleBennett.j1]
  rw [if_neg (by simp), if_pos rfl, h1, Option.bind_some, h2]; rfl
theorem PebbleBennett : backsteplaw44_PebbleBennett.Pure := by
  intro a0 a1 h0 h1
  have key : ∃ K, 201 ≤ K ∧ backsteplaw44_PebbleBennett.j0 (K + 1) a0 a1 (decide (300 < a0 ∧ a0 ≤ 500)) = some true := by
    by_cases hc : 300 < a0 ∧ a0 ≤ 500
    · obtain ⟨K, hK⟩ : ∃ K, K = 201 := ⟨_, rfl⟩
      refine ⟨K, by omega, ?_⟩
      have ha := upto (fun k => backsteplaw44_awake.mono k) awake_ok (show 200 ≤ K by omega)
      rw [decide_eq_true hc]
      rw [backsteplaw44_PebbleBennett.j0]
      rw [if_pos rfl, ha]; rfl
    · rw [decide_eq_false hc]
      by_cases ho : a0 < 1 ∨ 500 < a0 ∨ a1 < 2 ∨ 500 < a1
      · obtain ⟨K, hK⟩ : ∃ K, K = 201 := ⟨_, rfl⟩
        refine ⟨K, by omega, ?_⟩
        have hj : backsteplaw44_PebbleBennett.j1 K a0 a1 [] 2 true = some true := by rw [hK]; exact j1_out 200 a0 a1
        rw [backsteplaw44_PebbleBennett.j0]
        rw [if_neg (by simp), bennett_out ho, Option.bind_some]
        by_cases c1 : a0 < 1
        · rw [if_pos c1]; exact hj
        · rw [if_neg c1]
          by_cases c2 : a0 > 500
          · rw [if_pos c2]; exact hj
          · rw [if_neg c2]
            by_cases c3 : a1 < 2
            · rw [if_pos c3]; exact hj
            · rw [if_neg c3, decide_eq_true (by omega)]; exact hj
      · have h5 : a0 ≤ 500 := by omega
        obtain ⟨K1, hK1⟩ := ref_bennett a1 (by omega) a0.toNat 0 a0 (by omega) (by omega) (by omega) (by omega) (by omega)
        have hI := ints_same (strat a1 a0.toNat 0 a0) (by have := strat_short a1 (by omega) a0.toNat 0 a0 (by omega) (by omega); omega)
        obtain ⟨K, hK⟩ : ∃ K, K = max 201 (max K1 ((strat a1 a0.toNat 0 a0).length + 1)) := ⟨_, rfl⟩
        have hK1' := upto (fun k => (backstepref44_Bennett.mono_l k).1 0 a0 a1) hK1 (show K1 ≤ K by omega)
        have hI' := upto (fun k => backsteplaw44_ints.mono (strat a1 a0.toNat 0 a0) (strat a1 a0.toNat 0 a0) k) hI (show _ ≤ K by omega)
        refine ⟨K + 1, by omega, ?_⟩
        have hj := j1_in K a0 a1 _ hK1' hI'
        obtain ⟨Q, hQ⟩ : ∃ Q, Q = K + 1 := ⟨_, rfl⟩
        rw [← hQ] at hj ⊢
        rw [backsteplaw44_PebbleBennett.j0]
        rw [if_neg (by simp), bennett_f (by omega) h5 (by omega) (by omega), Option.bind_some, if_neg (by omega), if_neg (by omega), if_neg (by omega), decide_eq_false (by omega)]
        exact hj
  obtain ⟨K, hK0, hK⟩ := key
  refine ⟨K + 1, ?_⟩
  have ha := upto (fun k => backsteplaw44_awake.mono k) awake_ok (show 200 ≤ K + 1 by omega)
  unfold backsteplaw44_PebbleBennett.f
  rw [ha, Option.bind_some, if_pos rfl]
  by_cases c : a0 > 300
  · rw [if_pos c]
    have e : decide (a0 ≤ 500) = decide (300 < a0 ∧ a0 ≤ 500) := by apply decide_eq_decide.2; omega
    rw [e]; exact hK
  · rw [if_neg c]
    have e : decide (300 < a0 ∧ a0 ≤ 500) = false := decide_eq_false (by omega)
    rw [e] at hK; exact hK
end Go.Proofs.Ytpkamififbhheaa.Pure
