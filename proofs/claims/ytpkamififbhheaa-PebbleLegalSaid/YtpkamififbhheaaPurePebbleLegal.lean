/- PebbleLegal's plain law: pebble.Legal, Peak and Inverse tell what the reference tells. -/
import Derived.Test.YtpkamififbhheaaPAllx6
import Derived.Test.YtpkamififbhheaaGame
import Derived.Test.YtpkamififbhheaaGreat
namespace Go.Proofs.Ytpkamififbhheaa.Pure
open Go.RowKit Go.Proofs.Ytpkamififbhheaa.PAll Go.Proofs.YtpkamififbhheaaW.PrintWords Go.Proofs.YtpkamififbhheaaW.PrintLast

structure Sim (n : Int) (ps : List Int) (on : List Bool) : Prop where
  bd : ∀ x ∈ ps, 1 ≤ x ∧ x ≤ n
  len : (on.length : Int) = n + 1
  same : ∀ x, 1 ≤ x → x ≤ n → rdOf false on x = onOf ps x
theorem rdOf_set {l : List Bool} {x y : Int} {b : Bool} (h0 : 0 ≤ x) (h1 : x < l.length) (h2 : 0 ≤ y) : rdOf false (l.set x.toNat b) y = if y = x then b else rdOf false l y := by
  unfold rdOf
  by_cases h : y = x
  · subst h
    rw [if_pos rfl, List.getD_eq_getElem?_getD, List.getElem?_set_self (by omega)]; rfl
  · rw [if_neg h, List.getD_eq_getElem?_getD, List.getD_eq_getElem?_getD, List.getElem?_set_ne (by omega)]
theorem legal_inner {n : Int} {ps : List Int} {on : List Bool} (hS : Sim n ps on) (hn : n ≤ 300) (i m v : Int) (hv : v = nodeOf m) (R : Option (Int × Bool)) :
    (if v < 1 then (some (i, false)) else (if v > n then (some (i, false)) else (if 0 ≤ v then (if v < (on.length : Int) then (if ((rdOf false on v) == (decide (m > 0))) = true then (some (i, false)) else
      (if v > 1 then (if 0 ≤ (wrap64 (v - 1)) then (if (wrap64 (v - 1)) < (on.length : Int) then (if (rdOf false on (wrap64 (v - 1)) = true) then R else (some (i, false))) else (none)) else (none)) else R)) else (none)) else (none))))
      = if badMove n ps m = true then some (i, false) else R := by
  have hl := hS.len
  unfold badMove
  rw [← hv]
  by_cases c1 : v < 1
  · rw [if_pos c1, decide_eq_true c1]; simp
  · rw [if_neg c1, decide_eq_false c1]
    by_cases c2 : v > n
    · rw [if_pos c2, decide_eq_true c2]; simp
    · rw [if_neg c2, decide_eq_false c2, if_pos (by omega), if_pos (by omega), hS.same v (by omega) (by omega)]
      simp only [Bool.false_or]
      by_cases c3 : (onOf ps v == decide (0 < m)) = true
      · rw [if_pos c3, c3]; simp
      · rw [if_neg c3]
        have c3' : (onOf ps v == decide (0 < m)) = false := by simpa using c3
        rw [c3', Bool.false_or]
        by_cases c4 : v > 1
        · rw [if_pos c4, wrap64_of (by omega) (by omega), if_pos (by omega), if_pos (by omega), hS.same (v - 1) (by omega) (by omega)]
          cases onOf ps (v - 1) <;> simp
        · rw [if_neg c4]
          have : v - 1 = 0 := by omega
          rw [this]; simp [onOf]
theorem sim_upd {n : Int} {ps : List Int} {on : List Bool} (hS : Sim n ps on) {m v : Int} (hv : v = nodeOf m) (hb : badMove n ps m = false) : Sim n (updOn ps (nodeOf m) m) (on.set v.toNat (decide (m > 0))) := by
  have hb2 := hb
  unfold badMove at hb2
  simp only [Bool.or_eq_false_iff, decide_eq_false_iff_not] at hb2
  rw [← hv] at hb2
  have hl := hS.len
  refine ⟨?_, by simpa using hl, ?_⟩
  · unfold updOn
    rw [← hv]
    intro x hx
    split at hx
    · rcases List.mem_cons.1 hx with rfl | hx
      · omega
      · exact hS.bd x hx
    · exact hS.bd x (List.mem_filter.1 hx).1
  · intro x h1 h2
    rw [onOf_upd' hb, ← hv, rdOf_set (by omega) (by omega) (by omega)]
    unfold upd
    split
    · rfl
    · exact hS.same x h1 h2
theorem legal_l1 {n : Int} {ps : List Int} {on : List Bool} (hS : Sim n ps on) (hn : n ≤ 300) (h1n : 1 ≤ n) (l : List Int) : ∀ (r : Nat) (j : Int), 1 ≤ j → n - j ≤ r → ∃ b, backstepref44_Legal.l1 (r + 1) n l on j = some ((l.length : Int), b) ∧ (b = true ↔ onOf ps n = true ∧ ∀ x, j ≤ x → x < n → onOf ps x = false)
  | 0, j, hj, hr => by
    have hl := hS.len
    refine ⟨onOf ps n, ?_, ?_⟩
    · unfold backstepref44_Legal.l1
      rw [if_neg (by omega), if_pos (by omega), if_pos (by omega), hS.same n h1n (Int.le_refl _)]
    · constructor
      · intro h; exact ⟨h, fun x h1 h2 => by omega⟩
      · exact fun h => h.1
  | r + 1, j, hj, hr => by
    have hl := hS.len
    by_cases c : j < n
    · obtain ⟨b, hb, hb2⟩ := legal_l1 hS hn h1n l r (j + 1) (by omega) (by omega)
      unfold backstepref44_Legal.l1
      rw [if_pos c, if_pos (by omega), if_pos (by omega), hS.same j hj (by omega), wrap64_of (by omega) (by omega)]
      cases ho : onOf ps j
      · refine ⟨b, by rw [if_neg (by simp)]; exact hb, hb2.trans ⟨fun h => ⟨h.1, fun x h1 h2 => ?_⟩, fun h => ⟨h.1, fun x h1 h2 => h.2 x (by omega) h2⟩⟩⟩
        by_cases hx : x = j
        · rw [hx]; exact ho
        · exact h.2 x (by omega) h2
      · refine ⟨false, by rw [if_pos rfl], ⟨fun h => absurd h (by simp), fun h => ?_⟩⟩
        have := h.2 j (Int.le_refl _) c
        rw [ho] at this; exact absurd this (by simp)
    · refine ⟨onOf ps n, ?_, ⟨fun h => ⟨h, fun x h1 h2 => by omega⟩, fun h => h.1⟩⟩
      unfold backstepref44_Legal.l1
      rw [if_neg (by omega), if_pos (by omega), if_pos (by omega), hS.same n h1n (Int.le_refl _)]
theorem legal_sim (n : Int) (hn : n ≤ 300) (h1n : 1 ≤ n) (l : List Int) (hs : Small l) (hll : l.length ≤ 1000) : ∀ (r i : Nat) (ps : List Int) (on : List Bool), r + i = l.length → Sim n ps on →
    backstepref44_Legal.l0 (r + 500) n l on (i : Int) = some (legalGo n i ps (l.drop i))
  | 0, i, ps, on, h, hS => by
    obtain ⟨b, hb, hb2⟩ := legal_l1 hS hn h1n l 498 1 (by omega) (by omega)
    have he := legal_end n i ps (fun x hx => (hS.bd x hx).1)
    rw [List.drop_eq_nil_of_le (by omega)]
    show backstepref44_Legal.l0 (499 + 1) n l on (i : Int) = _
    obtain ⟨q, hq⟩ : ∃ q, q = 499 := ⟨_, rfl⟩
    have hb' : backstepref44_Legal.l1 q n l on 1 = some ((l.length : Int), b) := by rw [hq]; exact hb
    rw [← hq]
    unfold backstepref44_Legal.l0
    rw [if_neg (by omega), hb']
    congr 1
    apply Prod.ext
    · rw [he.1]; simp; omega
    · rw [Bool.eq_iff_iff, hb2, he.2]
      unfold doneOn
      constructor
      · rintro ⟨h1, h2⟩
        refine ⟨h1n, h1, fun x hx hne => ?_⟩
        by_cases hlt : x < n
        · exact h2 x hx hlt
        · have h0 : (x == 0) = false := by simp; omega
          unfold onOf
          rw [h0, Bool.false_or]
          cases hc : ps.contains x
          · rfl
          · have := hS.bd x (List.contains_iff_mem.1 hc); omega
      · rintro ⟨_, h1, h2⟩
        exact ⟨h1, fun x hx hlt => h2 x hx (by omega)⟩
  | r + 1, i, ps, on, h, hS => by
    have hi : i < l.length := by omega
    have hr := rd_of hi
    have hsm := hs l[i] (List.getElem_mem hi)
    have ed : l.drop i = l[i] :: l.drop (i + 1) := List.drop_eq_getElem_cons hi
    have hno := nodeOf_small hsm
    have hw : wrap64 ((i : Int) + 1) = ((i + 1 : Nat) : Int) := by rw [wrap64_of (by omega) (by omega)]; omega
    have er : r + 1 + 500 = (r + 500) + 1 := by omega
    rw [ed, er]
    unfold backstepref44_Legal.l0 legalGo
    rw [if_pos (by omega), if_pos (by omega), hr, hw]
    have key : ∀ v, v = nodeOf l[i] → (if badMove n ps l[i] = true then some ((i : Int), false) else backstepref44_Legal.l0 (r + 500) n l (on.set v.toNat (decide (l[i] > 0))) ((i + 1 : Nat) : Int)) =
        some (if badMove n ps l[i] = true then ((i : Int), false) else legalGo n ((i : Int) + 1) (updOn ps (nodeOf l[i]) l[i]) (l.drop (i + 1))) := by
      intro v hv
      by_cases hb : badMove n ps l[i] = true
      · rw [if_pos hb, if_pos hb]
      · rw [if_neg hb, if_neg hb]
        have := legal_sim n hn h1n l hs hll r (i + 1) _ _ (by omega) (sim_upd hS hv (by simpa using hb))
        rw [this]; push_cast; rfl
    by_cases c : l[i] > 0
    · have hv : l[i] = nodeOf l[i] := by rw [hno, if_neg (by omega)]
      rw [if_pos c]
      exact (legal_inner hS hn i l[i] l[i] hv _).trans (key _ hv)
    · have hv : wrap64 (-l[i]) = nodeOf l[i] := by
        rw [hno, neg_small hsm]; split <;> omega
      rw [if_neg c]
      exact (legal_inner hS hn i l[i] (wrap64 (-l[i])) hv _).trans (key _ hv)
theorem legal_ref (n : Int) (hn : n ≤ 300) (hw : (Lit.int .i64 n).wf = true) (l : List Int) (hs : Small l) (hll : l.length ≤ 1000) : backstepref44_Legal.f (l.length + 500) n l = some (legalGo n 0 [] l) := by
  have hw := wf64.1 hw
  unfold backstepref44_Legal.f
  by_cases c : n < 1
  · rw [if_pos c]
    congr 1
    cases l with
    | nil => unfold legalGo; rw [decide_eq_false (by omega)]; simp
    | cons m l =>
      unfold legalGo
      rw [if_pos]
      unfold badMove
      by_cases h : nodeOf m < 1
      · rw [decide_eq_true h]; rfl
      · rw [decide_eq_true (show n < nodeOf m by omega)]; simp
  · rw [if_neg c, wrap64_of (by omega) (by omega), if_pos (by omega), if_pos (by omega)]
    have := legal_sim n hn (by omega) l hs hll l.length 0 [] (List.replicate (n + 1).toNat false) (by omega) ⟨by simp, by simp; omega, fun x h1 h2 => by
      unfold rdOf onOf
      have h0 : (x == 0) = false := by simp; omega
      rw [h0]; simp [List.getD_eq_getElem?_getD, List.getElem?_replicate]; split <;> rfl⟩
    simpa using this
theorem peak_ref_l0 (l : List Int) (hl : l.length ≤ 1000) : ∀ (r i : Nat) (P now : Int), r + i = l.length → now ≤ P → -(i : Int) ≤ now → now ≤ i → P ≤ i →
    backstepref44_Peak.l0 (2 * r + 1) l P now (i : Int) = some (max P (pk now (l.drop i)))
  | 0, i, P, now, h, hn, h1, h2, h3 => by
    unfold backstepref44_Peak.l0
    rw [if_neg (by omega), List.drop_eq_nil_of_le (by omega)]
    simp only [pk]; congr 1; omega
  | r + 1, i, P, now, h, hn, h1, h2, h3 => by
    have hi : i < l.length := by omega
    have hr := rd_of hi
    have hs := sg_bd l[i]
    have hw : wrap64 ((i : Int) + 1) = ((i + 1 : Nat) : Int) := by rw [wrap64_of (by omega) (by omega)]; omega
    have ed : l.drop i = l[i] :: l.drop (i + 1) := List.drop_eq_getElem_cons hi
    have hp := pk_ge (now + sg l[i]) (l.drop (i + 1))
    have key := peak_ref_l0 l hl r (i + 1) (max P (now + sg l[i])) (now + sg l[i]) (by omega) (by omega) (by omega) (by omega) (by omega)
    have er : 2 * (r + 1) + 1 = (2 * r + 1) + 1 + 1 := by omega
    have e2 : max P (max now (pk (now + sg l[i]) (l.drop (i + 1)))) = max (max P (now + sg l[i])) (pk (now + sg l[i]) (l.drop (i + 1))) := by omega
    have hj : ∀ q : Int, q + (if l[i] < 0 then -1 else 0) = now + sg l[i] → -1000000 ≤ q → q ≤ 1000000 → backstepref44_Peak.j1 (2 * r + 1 + 1) l P q (i : Int) = some (max P (pk now (l.drop i))) := by
      intro q hq hq1 hq2
      rw [ed]
      simp only [pk, mx_def]
      rw [e2, ← key]
      obtain ⟨z, hz⟩ : ∃ z, z = 2 * r + 1 := ⟨_, rfl⟩
      rw [← hz]
      unfold backstepref44_Peak.j1
      rw [if_pos (by omega), if_pos (by omega), hr, hw]
      by_cases c : l[i] < 0
      · rw [if_pos c] at hq
        rw [if_pos c, wrap64_of (by omega) (by omega), show q - 1 = now + sg l[i] by omega]
        by_cases c2 : now + sg l[i] > P
        · rw [if_pos c2, show max P (now + sg l[i]) = now + sg l[i] by omega]
        · rw [if_neg c2, show max P (now + sg l[i]) = P by omega]
      · rw [if_neg c] at hq
        rw [if_neg c, show q = now + sg l[i] by omega]
        by_cases c2 : now + sg l[i] > P
        · rw [if_pos c2, show max P (now + sg l[i]) = now + sg l[i] by omega]
        · rw [if_neg c2, show max P (now + sg l[i]) = P by omega]
    rw [er]
    obtain ⟨z, hz⟩ : ∃ z, z = 2 * r + 1 + 1 := ⟨_, rfl⟩
    rw [← hz] at hj ⊢
    unfold backstepref44_Peak.l0
    rw [if_pos (by omega), if_pos (by omega), hr]
    by_cases c : l[i] > 0
    · rw [if_pos c, wrap64_of (by omega) (by omega)]
      have e : sg l[i] = 1 := by unfold sg; rw [if_pos (by omega)]
      exact hj _ (by rw [e, if_neg (by omega)]; omega) (by omega) (by omega)
    · rw [if_neg c]
      have c' : ¬ 0 < l[i] := c
      have e : sg l[i] = if l[i] < 0 then -1 else 0 := by unfold sg; rw [if_neg c']
      exact hj _ (by rw [e]) (by omega) (by omega)
theorem PebbleLegal : backsteplaw44_PebbleLegal.Pure := by
  intro n l h0 hm hm8 hw
  obtain ⟨K0, b, hb, hb2⟩ := great_cases l (by omega)
  have key : ∃ K, 200 ≤ K ∧ K0 ≤ K ∧ backsteplaw44_PebbleLegal.j0 (K + 1) n l (b || decide (n > 300)) = some true := by
    by_cases hc : (b || decide (n > 300)) = true
    · obtain ⟨K, hK⟩ : ∃ K, K = max 200 K0 := ⟨_, rfl⟩
      refine ⟨K, by omega, by omega, ?_⟩
      have ha := upto (fun k => backsteplaw44_awake.mono k) awake_ok (show 200 ≤ K by omega)
      rw [hc, backsteplaw44_PebbleLegal.j0, if_pos rfl, ha]; rfl
    · have hc : (b || decide (n > 300)) = false := by simpa using hc
      simp only [Bool.or_eq_false_iff, decide_eq_false_iff_not] at hc
      obtain ⟨hl, hs⟩ := hb2 hc.1
      have hsm : Small l := fun x hx => by have := hs x hx; omega
      obtain ⟨K, hK⟩ : ∃ K, K = max 3000 K0 := ⟨_, rfl⟩
      have hLeg : pebble_Legal.f n l = some (legalGo n 0 [] l) := by
        unfold pebble_Legal.f
        rw [if_pos ⟨h0, by omega, hw⟩]
      have hInv : pebble_Inverse.f l = some (negRev l) := by unfold pebble_Inverse.f; rw [if_pos (by omega)]
      have h1 := upto (fun k => backstepref44_Legal.mono n l k) (legal_ref n (by omega) h0 l hsm (by omega)) (show _ ≤ K by omega)
      have h2 := upto (fun k => pebble_Peak.mono l k) (peak_f l (by omega)) (show _ ≤ K by omega)
      have h3' : backstepref44_Peak.f (2 * l.length + 1) l = some (max 0 (pk 0 l)) := by
        unfold backstepref44_Peak.f
        simpa using peak_ref_l0 l (by omega) l.length 0 0 0 (by omega) (by omega) (by omega) (by omega) (by omega)
      have h3 := upto (fun k => backstepref44_Peak.mono l k) h3' (show _ ≤ K by omega)
      have h4 := upto (fun k => backstepref44_Inverse.mono l k) (ref_inverse l (by omega)) (show _ ≤ K by omega)
      have h5 := upto (fun k => backsteplaw44_ints.mono (negRev l) (negRev l) k) (ints_same (negRev l) (by rw [negRev_length]; omega)) (show _ ≤ K by rw [negRev_length]; omega)
      refine ⟨K, by omega, by omega, ?_⟩
      rw [hc.1, decide_eq_false hc.2, backsteplaw44_PebbleLegal.j0, if_neg (by simp), hLeg, Option.bind_some, h1, Option.bind_some, if_pos rfl, if_pos (by simp), h2, Option.bind_some, h3, Option.bind_some, if_pos rfl, hInv, Option.bind_some, h4, Option.bind_some, h5]
      rfl
  obtain ⟨K, hK0, hK1, hK⟩ := key
  refine ⟨K + 1, ?_⟩
  have ha := upto (fun k => backsteplaw44_awake.mono k) awake_ok (show 200 ≤ K + 1 by omega)
  have hg := upto (fun k => backsteplaw44_great.mono l k) hb (show K0 ≤ K + 1 by omega)
  unfold backsteplaw44_PebbleLegal.f
  rw [ha, Option.bind_some, if_pos rfl, hg, Option.bind_some]
  cases b
  · rw [if_neg (by simp)]; simpa using hK
  · rw [if_pos rfl]; simpa using hK
end Go.Proofs.Ytpkamififbhheaa.Pure
