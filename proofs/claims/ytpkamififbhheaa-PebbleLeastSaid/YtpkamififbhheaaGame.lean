/- The pebble game on functions: a run of moves, its reverse, its peak; and that pebble.Legal and pebble.Peak tell just that. -/
import Derived.Test.YtpkamififbhheaaMon
import Derived.Test.YtpkamififbhheaaLeg
namespace Go.Proofs.Ytpkamififbhheaa.Pure
open Go.RowKit Go.Proofs.Ytpkamififbhheaa.PAll Go.Proofs.YtpkamififbhheaaW.PrintWords Go.Proofs.YtpkamififbhheaaW.PrintLast Go.Proofs.YtpkamififbhheaaW.PrintMore

def badOn (n : Int) (on : Int → Bool) (m : Int) : Bool :=
  decide (nodeOf m < 1) || decide (n < nodeOf m) || (on (nodeOf m) == decide (0 < m)) || !on (nodeOf m - 1)
def upd (on : Int → Bool) (x : Int) (v : Bool) : Int → Bool := fun y => if y = x then v else on y
def runs (n : Int) : (Int → Bool) → List Int → Option (Int → Bool)
  | on, [] => some on
  | on, m :: ms => if badOn n on m then none else runs n (upd on (nodeOf m) (decide (0 < m))) ms
theorem runs_append (n : Int) : ∀ (l r : List Int) (on : Int → Bool), runs n on (l ++ r) = (runs n on l).bind fun on' => runs n on' r
  | [], r, on => rfl
  | m :: l, r, on => by
    simp only [List.cons_append, runs]
    split
    · rfl
    · exact runs_append n l r _
def Small (l : List Int) : Prop := ∀ x ∈ l, -4294967296 ≤ x ∧ x ≤ 4294967296
theorem neg_small {x : Int} (h : -4294967296 ≤ x ∧ x ≤ 4294967296) : wrap64 (-x) = -x := wrap64_of (by omega) (by omega)
theorem nodeOf_small {x : Int} (h : -4294967296 ≤ x ∧ x ≤ 4294967296) : nodeOf x = if x < 0 then -x else x := by
  unfold nodeOf
  rw [neg_small h]
  split <;> split <;> omega
theorem Small.negRev {l : List Int} (h : Small l) : Small (negRev l) := by
  intro x hx
  simp only [Ytpkamififbhheaa.negRev, List.mem_reverse, List.mem_map] at hx
  obtain ⟨y, hy, rfl⟩ := hx
  have := h y hy
  rw [neg_small this]; omega
theorem negRev_cons (m : Int) (l : List Int) : negRev (m :: l) = negRev l ++ [wrap64 (-m)] := by simp [negRev]
theorem negRev_append (l r : List Int) : negRev (l ++ r) = negRev r ++ negRev l := by simp [negRev]
theorem negRev_negRev {l : List Int} (h : Small l) : negRev (negRev l) = l := by
  induction l with
  | nil => rfl
  | cons m l ih =>
    have hm := h m (by simp)
    rw [negRev_cons, negRev_append, ih (fun x hx => h x (by simp [hx]))]
    have : negRev [wrap64 (-m)] = [m] := by
      simp only [negRev, List.map_cons, List.map_nil, List.reverse_cons, List.reverse_nil, List.nil_append]
      rw [neg_small hm, neg_small (by omega)]; simp
    rw [this]; rfl
theorem runs_back (n : Int) : ∀ (l : List Int) (on on' : Int → Bool), Small l → runs n on l = some on' → runs n on' (negRev l) = some on
  | [], on, on', _, h => by simp [runs] at h; subst h; rfl
  | m :: l, on, on', hs, h => by
    have hm := hs m (by simp)
    simp only [runs] at h
    split at h
    · exact absurd h (by simp)
    · rename_i hb
      have ih := runs_back n l _ on' (fun x hx => hs x (by simp [hx])) h
      rw [negRev_cons, runs_append, ih, Option.bind_some]
      have hn := nodeOf_small hm
      have hn2 := nodeOf_small (x := -m) (by omega)
      have en : nodeOf (-m) = nodeOf m := by rw [hn, hn2]; split <;> split <;> omega
      rw [neg_small hm]
      unfold badOn at hb
      simp only [Bool.not_eq_true, Bool.or_eq_false_iff, decide_eq_false_iff_not, beq_eq_false_iff_ne, Bool.not_eq_false'] at hb
      obtain ⟨⟨⟨h1, h2⟩, h3⟩, h4⟩ := hb
      have hne : m ≠ 0 := by intro h0; rw [hn, h0] at h1; simp at h1
      have e0 : decide (0 < -m) = !decide (0 < m) := by
        by_cases h : 0 < m
        · rw [decide_eq_true h, decide_eq_false (by omega)]; rfl
        · rw [decide_eq_false h, decide_eq_true (by omega)]; rfl
      have hb' : badOn n (upd on (nodeOf m) (decide (0 < m))) (-m) = false := by
        unfold badOn
        rw [en, e0]
        simp only [upd, if_pos, if_neg (show ¬ nodeOf m - 1 = nodeOf m by omega), h4]
        simp [h1, h2]
      simp only [runs, hb', Bool.false_eq_true, if_false, en, e0]
      congr 1
      funext y
      unfold upd
      by_cases hy : y = nodeOf m
      · subst hy
        rw [if_pos rfl]
        revert h3
        generalize on (nodeOf m) = u
        generalize decide (0 < m) = v
        cases u <;> cases v <;> simp
      · rw [if_neg hy, if_neg hy]

/-! ### pebble.Legal -/
theorem bad_on (n : Int) (ps : List Int) (m : Int) : badMove n ps m = badOn n (onOf ps) m := rfl
theorem onOf_upd' {n : Int} {ps : List Int} {m : Int} (h : badMove n ps m = false) : onOf (updOn ps (nodeOf m) m) = upd (onOf ps) (nodeOf m) (decide (0 < m)) := by
  have h1 : 1 ≤ nodeOf m := by
    unfold badMove at h
    simp only [Bool.or_eq_false_iff, decide_eq_false_iff_not] at h
    omega
  funext x
  exact onOf_upd ps (nodeOf m) m x h1
theorem pos_upd {ps : List Int} (h : ∀ x ∈ ps, 1 ≤ x) {node m : Int} (h1 : 1 ≤ node) : ∀ x ∈ updOn ps node m, 1 ≤ x := by
  unfold updOn
  intro x hx
  split at hx
  · rcases List.mem_cons.1 hx with rfl | hx
    · exact h1
    · exact h x hx
  · exact h x (List.mem_filter.1 hx).1
/-- A legal run, then the rest. -/
theorem legal_runs (n : Int) : ∀ (l r : List Int) (i : Int) (ps : List Int) (on' : Int → Bool), (∀ x ∈ ps, 1 ≤ x) → runs n (onOf ps) l = some on' →
    ∃ ps', onOf ps' = on' ∧ (∀ x ∈ ps', 1 ≤ x) ∧ legalGo n i ps (l ++ r) = legalGo n (i + l.length) ps' r
  | [], r, i, ps, on', hp, h => by simp [runs] at h; exact ⟨ps, h, hp, by simp⟩
  | m :: l, r, i, ps, on', hp, h => by
    simp only [runs] at h
    split at h
    · exact absurd h (by simp)
    · rename_i hb
      have hb : badMove n ps m = false := by rw [bad_on]; simpa using hb
      have h1 : 1 ≤ nodeOf m := by
        have hb2 := hb
        unfold badMove at hb2
        simp only [Bool.or_eq_false_iff, decide_eq_false_iff_not] at hb2
        omega
      rw [← onOf_upd' hb] at h
      obtain ⟨ps', e, hp', hl⟩ := legal_runs n l r (i + 1) _ on' (pos_upd hp h1) h
      refine ⟨ps', e, hp', ?_⟩
      rw [List.cons_append]
      conv => lhs; unfold legalGo
      rw [if_neg (by simp [hb]), hl]
      congr 1
      simp; omega
/-- Where Legal does not come to the end, it says no; where it does, the moves run. -/
theorem legal_cases (n : Int) : ∀ (l : List Int) (i : Int) (ps : List Int), (legalGo n i ps l).1 < i + l.length ∧ (legalGo n i ps l).2 = false ∨
    (legalGo n i ps l).1 = i + l.length ∧ ∃ on', runs n (onOf ps) l = some on'
  | [], i, ps => Or.inr ⟨by simp [legalGo], _, rfl⟩
  | m :: l, i, ps => by
    unfold legalGo
    by_cases hb : badMove n ps m = true
    · rw [if_pos hb]; left; simp; omega
    · rw [if_neg hb]
      have hb' : badMove n ps m = false := by simpa using hb
      rcases legal_cases n l (i + 1) (updOn ps (nodeOf m) m) with ⟨h1, h2⟩ | ⟨h1, on', h2⟩
      · left; refine ⟨?_, h2⟩; simp; omega
      · right
        refine ⟨by rw [h1]; simp; omega, on', ?_⟩
        simp only [runs]
        rw [if_neg (by rw [← bad_on]; exact hb), ← onOf_upd' hb']; exact h2
/-- The end: complete, if the goal alone has a pebble. -/
def doneOn (n : Int) (on : Int → Bool) : Prop := 1 ≤ n ∧ on n = true ∧ ∀ x, 1 ≤ x → x ≠ n → on x = false
theorem legal_end (n i : Int) (ps : List Int) (hp : ∀ x ∈ ps, 1 ≤ x) : (legalGo n i ps []).1 = i ∧ ((legalGo n i ps []).2 = true ↔ doneOn n (onOf ps)) := by
  refine ⟨rfl, ?_⟩
  unfold legalGo doneOn
  dsimp only
  constructor
  · intro h
    split at h
    · exact absurd h (by simp)
    · rename_i ha
      simp only [List.any_eq_true, not_exists, not_and, bne_iff_ne, ne_eq, Decidable.not_not] at ha
      simp only [Bool.and_eq_true, decide_eq_true_eq] at h
      refine ⟨h.1, h.2, fun x hx hne => ?_⟩
      unfold onOf
      simp only [Bool.or_eq_false_iff]
      refine ⟨by simp; omega, ?_⟩
      rw [← Bool.not_eq_true, List.contains_iff_mem]
      intro hc; exact hne (ha x hc)
  · rintro ⟨h1, h2, h3⟩
    rw [if_neg, h2, decide_eq_true h1]; · rfl
    intro hany
    obtain ⟨x, hx, hne⟩ := List.any_eq_true.1 hany
    have := h3 x (hp x hx) (by simpa using hne)
    unfold onOf at this
    simp only [Bool.or_eq_false_iff] at this
    have h5 : ps.contains x = true := List.contains_iff_mem.2 hx
    rw [h5] at this
    exact absurd this.2 (by simp)

/-! ### the peak -/
def sg (m : Int) : Int := if 0 < m then 1 else if m < 0 then -1 else 0
def ssum : List Int → Int
  | [] => 0
  | m :: l => sg m + ssum l
def pk : Int → List Int → Int
  | now, [] => now
  | now, m :: l => mx now (pk (now + sg m) l)
theorem ssum_append : ∀ l r : List Int, ssum (l ++ r) = ssum l + ssum r
  | [], r => by simp [ssum]
  | m :: l, r => by simp only [List.cons_append, ssum, ssum_append l r]; omega
theorem mx_def (a b : Int) : mx a b = max a b := by unfold mx; split <;> omega
theorem pk_ge : ∀ (now : Int) (l : List Int), now ≤ pk now l
  | now, [] => Int.le_refl _
  | now, m :: l => by simp only [pk, mx_def]; omega
theorem pk_append : ∀ (now : Int) (l r : List Int), pk now (l ++ r) = max (pk now l) (pk (now + ssum l) r)
  | now, [], r => by have := pk_ge now r; simp [pk, ssum]; omega
  | now, m :: l, r => by
    simp only [List.cons_append, pk, ssum, pk_append (now + sg m) l r, mx_def]
    have e : now + sg m + ssum l = now + (sg m + ssum l) := by omega
    rw [e]; omega
theorem sg_neg {m : Int} (h : -4294967296 ≤ m ∧ m ≤ 4294967296) : sg (wrap64 (-m)) = - sg m := by
  rw [neg_small h]; unfold sg; split <;> split <;> (try split) <;> (try split) <;> omega
theorem ssum_back : ∀ l : List Int, Small l → ssum (negRev l) = - ssum l
  | [], _ => rfl
  | m :: l, h => by
    rw [negRev_cons, ssum_append, ssum_back l (fun x hx => h x (by simp [hx]))]
    simp only [ssum, sg_neg (h m (by simp))]; omega
theorem pk_back : ∀ (now : Int) (l : List Int), Small l → pk (now + ssum l) (negRev l) ≤ pk now l
  | now, [], _ => by simp [ssum, negRev, pk]
  | now, m :: l, h => by
    have hl : Small l := fun x hx => h x (by simp [hx])
    have ih := pk_back (now + sg m) l hl
    have hg := pk_ge (now + sg m) l
    rw [negRev_cons, pk_append, ssum_back l hl]
    simp only [ssum, pk, mx_def, sg_neg (h m (by simp))]
    have e1 : now + (sg m + ssum l) = now + sg m + ssum l := by omega
    rw [e1]
    omega
theorem sg_bd (m : Int) : -1 ≤ sg m ∧ sg m ≤ 1 := by unfold sg; split <;> (try split) <;> omega
theorem peak_l0 (l : List Int) (hl : l.length ≤ 1099511627776) : ∀ (r i : Nat) (P now : Int), r + i = l.length → now ≤ P → -(i : Int) ≤ now → now ≤ i →
    pebble_Peak.l0 (r + 1) P now l (l.length : Int) (i : Int) = some (max P (pk now (l.drop i)))
  | 0, i, P, now, h, hn, h1, h2 => by
    unfold pebble_Peak.l0
    rw [if_neg (by omega), List.drop_eq_nil_of_le (by omega)]
    simp only [pk]; congr 1; omega
  | r + 1, i, P, now, h, hn, h1, h2 => by
    have hi : i < l.length := by omega
    have hr := rd_of hi
    have hs := sg_bd l[i]
    have hw : wrap64 ((i : Int) + 1) = ((i + 1 : Nat) : Int) := by rw [wrap64_of (by omega) (by omega)]; omega
    have ed : l.drop i = l[i] :: l.drop (i + 1) := List.drop_eq_getElem_cons hi
    have hp := pk_ge (now + sg l[i]) (l.drop (i + 1))
    have key := peak_l0 l hl r (i + 1) (max P (now + sg l[i])) (now + sg l[i]) (by omega) (by omega) (by omega) (by omega)
    unfold pebble_Peak.l0
    rw [if_pos (by omega), if_pos (by omega), if_pos (by omega), hr, ed, hw]
    simp only [pk, mx_def]
    have e2 : max P (max now (pk (now + sg l[i]) (l.drop (i + 1)))) = max (max P (now + sg l[i])) (pk (now + sg l[i]) (l.drop (i + 1))) := by omega
    rw [e2]
    by_cases c1 : l[i] > 0
    · have e : sg l[i] = 1 := by unfold sg; rw [if_pos (by omega)]
      rw [e] at key ⊢
      rw [if_pos c1, wrap64_of (by omega) (by omega)]; exact key
    · rw [if_neg c1]
      by_cases c2 : l[i] < 0
      · have e : sg l[i] = -1 := by unfold sg; rw [if_neg (by omega), if_pos c2]
        rw [e] at key ⊢
        rw [if_pos c2, wrap64_of (by omega) (by omega)]; exact key
      · have e : sg l[i] = 0 := by unfold sg; rw [if_neg (by omega), if_neg c2]
        rw [e] at key ⊢
        rw [if_neg c2]; simpa using key
theorem peak_f (l : List Int) (hl : l.length ≤ 1099511627776) : pebble_Peak.f (l.length + 1) l = some (max 0 (pk 0 l)) := by
  unfold pebble_Peak.f
  simpa using peak_l0 l hl l.length 0 0 0 (by omega) (by omega) (by omega) (by omega)
end Go.Proofs.Ytpkamififbhheaa.Pure
