/- PebbleComplete's plain law: Bennett's strategy is legal and complete, with few pebbles. -/
import Derived.Test.YtpkamififbhheaaPAllx4
import Derived.Test.YtpkamififbhheaaGame
import Derived.Test.YtpkamififbhheaaPurePebbleBennett
namespace Go.Proofs.Ytpkamififbhheaa.Pure
open Go.RowKit Go.Proofs.Ytpkamififbhheaa.PAll Go.Proofs.YtpkamififbhheaaW.PrintWords Go.Proofs.YtpkamififbhheaaW.PrintLast

theorem pow_pos1 {b : Int} (h : 1 ≤ b) : ∀ L : Nat, 1 ≤ b ^ L
  | 0 => by simp
  | L + 1 => by
    have := Int.mul_le_mul_of_nonneg_left h (show 0 ≤ b ^ L by have := pow_pos1 h L; omega)
    have := pow_pos1 h L
    rw [Int.pow_succ]; omega
/-- r parts, then all but the last of them undone. -/
def there (L : List (List Int)) : List Int := L.flatten ++ (L.dropLast.reverse.map negRev).flatten
theorem there_cons (x y : List Int) (L : List (List Int)) : there (x :: y :: L) = x ++ (there (y :: L) ++ negRev x) := by
  unfold there
  rw [List.dropLast_cons_cons]
  simp only [List.flatten_cons, List.reverse_cons, List.map_append, List.map_cons, List.map_nil, List.flatten_append, List.flatten_nil, List.append_nil, List.append_assoc]
theorem there_one (x : List Int) : there [x] = x := by simp [there]
theorem strat_there (b : Int) (f : Nat) (a m : Int) (h : m ≠ 1) : strat b (f + 1) a m = there (bparts (strat b f) m (if b < m then b else m) (if b < m then b else m).toNat 0 a) := by
  conv => lhs; unfold strat
  rw [if_neg h]; rfl
/-- What is wanted of a part from a on, m nodes long, with at most c pebbles more. -/
structure Good (n : Int) (l : List Int) (a m : Int) (c : Int) : Prop where
  small : Small l
  run : ∀ on : Int → Bool, on a = true → (∀ x, a < x → x ≤ a + m → on x = false) → runs n on l = some (upd on (a + m) true)
  sum : ssum l = 1
  peak : ∀ now, pk now l ≤ now + c
theorem good_there (n b m p c : Int) (f : Nat) (hp : 2 ≤ p) (hpm : p ≤ m) (hc : 1 ≤ c)
    (hrec : ∀ a s, 0 ≤ a → a + s ≤ n → 1 ≤ s → s < m → s ≤ m / p + 1 → (m % p = 0 → s ≤ m / p) → Good n (strat b f a s) a s c) :
    ∀ (r : Nat) (i a : Int), 0 ≤ i → i + (r + 1) = p → 0 ≤ a → a + (m - offAt m p i) ≤ n →
      Good n (there (bparts (strat b f) m p (r + 1) i a)) a (m - offAt m p i) (c + r)
  | 0, i, a, hi, hr, ha, hn => by
    have hsb := sizeAt_bd (m := m) (p := p) (i := i) hi hp hpm
    have ho := offAt_succ m p i
    have he := offAt_end (m := m) (p := p) (by omega)
    have hi1 : i + 1 = p := by omega
    rw [hi1, he] at ho
    have e : m - offAt m p i = sizeAt m p i := by omega
    have hz : m % p = 0 → sizeAt m p i ≤ m / p := fun h0 => by unfold sizeAt; rw [if_neg (by omega)]; omega
    have hz2 : sizeAt m p i ≤ m / p + 1 := by unfold sizeAt; split <;> omega
    simp only [bparts, there_one]
    rw [e]
    simpa using hrec a (sizeAt m p i) ha (by omega) hsb.1 hsb.2 hz2 hz
  | r + 1, i, a, hi, hr, ha, hn => by
    have hsb := sizeAt_bd (m := m) (p := p) (i := i) hi hp hpm
    have ho := offAt_succ m p i
    have hz : m % p = 0 → sizeAt m p i ≤ m / p := fun h0 => by
      have := Int.emod_nonneg m (show p ≠ 0 by omega)
      unfold sizeAt; rw [if_neg (by omega)]; omega
    have hz2 : sizeAt m p i ≤ m / p + 1 := by unfold sizeAt; split <;> omega
    have hb1 := offAt_bd (m := m) (p := p) (i := i + 1) (by omega) (by omega) (by omega) (by omega)
    have hb2 := offAt_bd (m := m) (p := p) (i := i + 1 + 1) (by omega) (by omega) (by omega) (by omega)
    have ho2 := offAt_succ m p (i + 1)
    have hsb2 := sizeAt_bd (m := m) (p := p) (i := i + 1) (by omega) hp hpm
    have g1 := hrec a (sizeAt m p i) ha (by omega) hsb.1 hsb.2 hz2 hz
    have g2 := good_there n b m p c f hp hpm hc hrec r (i + 1) (a + sizeAt m p i) (by omega) (by omega) (by omega) (by omega)
    have e1 : bparts (strat b f) m p (r + 1 + 1) i a = strat b f a (sizeAt m p i) :: bparts (strat b f) m p (r + 1) (i + 1) (a + sizeAt m p i) := rfl
    have e2 : bparts (strat b f) m p (r + 1) (i + 1) (a + sizeAt m p i) = strat b f (a + sizeAt m p i) (sizeAt m p (i + 1)) :: bparts (strat b f) m p r (i + 1 + 1) (a + sizeAt m p i + sizeAt m p (i + 1)) := rfl
    rw [e1]
    rw [e2] at g2 ⊢
    rw [there_cons]
    generalize there _ = rest at g2 ⊢
    generalize strat b f a (sizeAt m p i) = x at g1 ⊢
    have hnx : negRev x = negRev x := rfl
    refine ⟨?_, ?_, ?_, ?_⟩
    · intro y hy
      rcases List.mem_append.1 hy with h | h
      · exact g1.small y h
      · rcases List.mem_append.1 h with h | h
        · exact g2.small y h
        · exact g1.small.negRev y h
    · intro on h0 hoff
      have q1 := g1.run on h0 (fun y h1 h2 => hoff y h1 (by omega))
      have q2 := g2.run (upd on (a + sizeAt m p i) true) (by simp [upd]) (fun y h1 h2 => by
        unfold upd; rw [if_neg (by omega)]; exact hoff y (by omega) (by omega))
      have ee : a + sizeAt m p i + (m - offAt m p (i + 1)) = a + (m - offAt m p i) := by omega
      rw [ee] at q2
      have q3 := g1.run (upd on (a + (m - offAt m p i)) true) (by unfold upd; rw [if_neg (by omega)]; exact h0) (fun y h1 h2 => by
        unfold upd; rw [if_neg (by omega)]; exact hoff y h1 (by omega))
      have q4 := runs_back n x _ _ g1.small q3
      have comm : upd (upd on (a + (m - offAt m p i)) true) (a + sizeAt m p i) true = upd (upd on (a + sizeAt m p i) true) (a + (m - offAt m p i)) true := by
        funext y; unfold upd; split <;> split <;> rfl
      rw [comm] at q4
      rw [runs_append, q1, Option.bind_some, runs_append, q2, Option.bind_some, q4]
    · rw [ssum_append, ssum_append, g1.sum, g2.sum, ssum_back x g1.small, g1.sum]; omega
    · intro now
      have p1 := g1.peak now
      have p2 := g2.peak (now + 1)
      have p3 := pk_back (now + 1) x g1.small
      have p4 := g1.peak (now + 1)
      rw [g1.sum] at p3
      rw [pk_append, pk_append, g1.sum, g2.sum]
      push_cast
      omega
theorem strat_good (n b : Int) (hb : 2 ≤ b) (hn : n ≤ 4294967296) : ∀ (f L : Nat) (a m : Int), 0 ≤ a → a + m ≤ n → 1 ≤ m → m ≤ f → m ≤ b ^ L → Good n (strat b f a m) a m (L * (b - 1) + 1)
  | 0, L, a, m, _, _, h1, h2, _ => by omega
  | f + 1, L, a, m, ha, ham, h1, h2, hL => by
    by_cases hm1 : m = 1
    · have hpos : 0 ≤ (L : Int) * (b - 1) := Int.mul_nonneg (by omega) (by omega)
      have es : strat b (f + 1) a m = [a + 1] := by unfold strat; rw [if_pos hm1]
      have hsm : -4294967296 ≤ a + 1 ∧ a + 1 ≤ 4294967296 := by omega
      have hnode : nodeOf (a + 1) = a + 1 := by rw [nodeOf_small hsm, if_neg (by omega)]
      have hsg : sg (a + 1) = 1 := by unfold sg; rw [if_pos (by omega)]
      rw [es, hm1]
      refine ⟨fun y hy => ?_, fun on h0 hoff => ?_, ?_, fun now => ?_⟩
      · simp at hy; omega
      · have hb : badOn n on (a + 1) = false := by
          unfold badOn
          rw [hnode, hoff (a + 1) (by omega) (by omega), show a + 1 - 1 = a by omega, h0]
          simp; omega
        simp only [runs, hb, Bool.false_eq_true, if_false, hnode, decide_eq_true (show 0 < a + 1 by omega)]
      · simp [ssum, hsg]
      · simp only [pk, hsg, mx_def]; omega
    · rw [strat_there b f a m hm1]
      obtain ⟨p, hp⟩ : ∃ p, p = (if b < m then b else m) := ⟨_, rfl⟩
      rw [← hp]
      have hp2 : 2 ≤ p := by rw [hp]; split <;> omega
      have hpm : p ≤ m := by rw [hp]; split <;> omega
      have hpb : p ≤ b := by rw [hp]; split <;> omega
      match L, hL with
      | 0, hL => simp at hL; omega
      | L + 1, hL =>
        have hB : (1 : Int) ≤ b ^ L := pow_pos1 (by omega) _
        rw [Int.pow_succ] at hL
        have hmod := Int.emod_add_mul_ediv m p
        have hmn := Int.emod_nonneg m (show p ≠ 0 by omega)
        have hpos : 0 ≤ (L : Int) * (b - 1) := Int.mul_nonneg (by omega) (by omega)
        have g := good_there n b m p (L * (b - 1) + 1) f hp2 hpm (by omega) (fun a' s ha' has hs1 hsm hs2 hs3 => strat_good n b hb hn f L a' s ha' has hs1 (by omega) (by
            by_cases hc : b < m
            · have hpe : p = b := by rw [hp, if_pos hc]
              subst hpe
              by_cases h0 : m % p = 0
              · have h5 := hs3 h0
                have h6 : p * (m / p) ≤ p * p ^ L := by rw [Int.mul_comm p (p ^ L)]; omega
                have h7 := Int.le_of_mul_le_mul_left h6 (by omega)
                omega
              · have h6 : p * (m / p) < p * p ^ L := by rw [Int.mul_comm p (p ^ L)]; omega
                have h7 := Int.lt_of_mul_lt_mul_left h6 (by omega)
                omega
            · have hpe : p = m := by rw [hp, if_neg hc]
              subst hpe
              have : p % p = 0 := Int.emod_self
              have h5 := hs3 this
              rw [Int.ediv_self (by omega)] at h5
              omega)) (p.toNat - 1) 0 a (by omega) (by omega) ha (by rw [offAt_zero (by omega)]; omega)
        rw [offAt_zero (by omega), show p.toNat - 1 + 1 = p.toNat by omega, show m - 0 = m by omega] at g
        refine ⟨g.small, g.run, g.sum, fun now => ?_⟩
        have := g.peak now
        have e : ((L + 1 : Nat) : Int) * (b - 1) = L * (b - 1) + (b - 1) := by push_cast; rw [Int.add_mul]; omega
        rw [e]; omega
theorem complete_l0 (n b : Int) (s : List Int) (K : Nat) (P : Int) (hb : 2 ≤ b) (hb2 : b ≤ 100) (hn : n ≤ 500)
    (hP : ∀ k, K ≤ k → pebble_Peak.f k s = some P) (hbound : ∀ L : Nat, n ≤ b ^ L → P ≤ L * (b - 1) + 1) :
    ∀ (r L : Nat), n - b ^ L ≤ r → b ^ L ≤ 100000 → L ≤ 100000 → b ^ L ≥ L → ∃ K', backsteplaw44_PebbleComplete.l0 K' n b s 0 (s.length : Int) true (L : Int) (b ^ L) = some true
  | 0, L, hr, h1, h2, h3 => by
    refine ⟨K + 1, ?_⟩
    have hbd := hbound L (by omega)
    have h5 : (L : Int) * (b - 1) ≤ L * 100 := Int.mul_le_mul_of_nonneg_left (by omega) (by omega)
    have h6 : 0 ≤ (L : Int) * (b - 1) := Int.mul_nonneg (by omega) (by omega)
    unfold backsteplaw44_PebbleComplete.l0
    rw [if_neg (by omega), if_pos rfl, if_pos rfl, if_pos rfl, hP K (Nat.le_refl _), Option.bind_some]
    rw [wrap64_of (n := b - 1) (by omega) (by omega), wrap64_of (n := (L : Int) * (b - 1)) (by omega) (by omega), wrap64_of (by omega) (by omega), decide_eq_true hbd]
  | r + 1, L, hr, h1, h2, h3 => by
    by_cases hc : b ^ L < n
    · have e1 : b ^ (L + 1) = b ^ L * b := Int.pow_succ b L
      have hB : (1 : Int) ≤ b ^ L := pow_pos1 (by omega) _
      have h4 : b ^ L * 2 ≤ b ^ L * b := Int.mul_le_mul_of_nonneg_left hb (by omega)
      have h5 : b ^ L * b ≤ b ^ L * 100 := Int.mul_le_mul_of_nonneg_left hb2 (by omega)
      obtain ⟨K', hK'⟩ := complete_l0 n b s K P hb hb2 hn hP hbound r (L + 1) (by omega) (by omega) (by omega) (by omega)
      refine ⟨K' + 1, ?_⟩
      unfold backsteplaw44_PebbleComplete.l0
      rw [if_pos hc, wrap64_of (by omega) (by omega), wrap64_of (by omega) (by omega), ← e1]
      exact hK'
    · refine ⟨K + 1, ?_⟩
      have hbd := hbound L (by omega)
      have h5 : (L : Int) * (b - 1) ≤ L * 100 := Int.mul_le_mul_of_nonneg_left (by omega) (by omega)
      have h6 : 0 ≤ (L : Int) * (b - 1) := Int.mul_nonneg (by omega) (by omega)
      unfold backsteplaw44_PebbleComplete.l0
      rw [if_neg (by omega), if_pos rfl, if_pos rfl, if_pos rfl, hP K (Nat.le_refl _), Option.bind_some]
      rw [wrap64_of (n := b - 1) (by omega) (by omega), wrap64_of (n := (L : Int) * (b - 1)) (by omega) (by omega), wrap64_of (by omega) (by omega), decide_eq_true hbd]
theorem PebbleComplete : backsteplaw44_PebbleComplete.Pure := by
  intro a0 a1 h0 h1
  have h0 := wf16.1 h0
  have h1 := wf16.1 h1
  obtain ⟨u, hu⟩ := tmod_fin h0.1 300 (by omega)
  obtain ⟨v, hv⟩ := tmod_fin h1.1 60 (by omega)
  have hu : Int.tmod a0 300 = u.1 := hu
  have hv : Int.tmod a1 60 = v.1 := hv
  obtain ⟨n, hn⟩ : ∃ n : Int, n = 1 + (u.1 : Int) := ⟨_, rfl⟩
  obtain ⟨b, hb⟩ : ∃ b : Int, b = 2 + (v.1 : Int) := ⟨_, rfl⟩
  have hu2 := u.2
  have hv2 := v.2
  have g := fun L : Nat => strat_good n b (by omega) (by omega) n.toNat L 0 n (by omega) (by omega) (by omega) (by omega)
  have hlen := strat_short b (by omega) n.toNat 0 n (by omega) (by omega)
  have hpow : ∀ q : Nat, (q : Int) ≤ b ^ q := fun q => by
    induction q with
    | zero => simp
    | succ q ih =>
      rw [Int.pow_succ]
      have hB : (1 : Int) ≤ b ^ q := pow_pos1 (by omega) _
      have h4 : b ^ q * 2 ≤ b ^ q * b := Int.mul_le_mul_of_nonneg_left (by omega) (by omega)
      push_cast; omega
  have hN := hpow n.toNat
  have gn := g n.toNat (by omega)
  have wfn : (Lit.int .i64 n).wf = true := wf64.2 (by omega)
  obtain ⟨s, hs⟩ : ∃ s, s = strat b n.toNat 0 n := ⟨_, rfl⟩
  rw [← hs] at gn hlen
  have hon : onOf [] = fun x => x == 0 := by funext x; simp [onOf]
  have hrun := gn.run (onOf []) (by rw [hon]; rfl) (fun x h1 h2 => by rw [hon]; simp; omega)
  obtain ⟨p1, o1, q1, g1⟩ := legal_runs n s [] 0 [] _ (by simp) hrun
  simp only [List.append_nil] at g1
  have d1 := legal_end n (0 + s.length) p1 q1
  have hL : pebble_Legal.f n s = some ((s.length : Int), true) := by
    unfold pebble_Legal.f
    rw [if_pos ⟨wfn, by omega, fun x hx => wf64.2 (by have := gn.small x hx; omega)⟩, g1]
    congr 1
    apply Prod.ext
    · rw [d1.1]; simp
    · refine d1.2.2 ?_
      rw [o1, hon]
      refine ⟨by omega, by simp [upd], fun x h1 h2 => ?_⟩
      unfold upd
      rw [if_neg (by omega)]; simp; omega
  have hBen : pebble_Bennett.f n b = some (s, 0) := by rw [hs]; exact bennett_f (by omega) (by omega) (by omega) (by omega)
  have hP : ∀ k, s.length + 1 ≤ k → pebble_Peak.f k s = some (max 0 (pk 0 s)) := fun k hk => upto (fun k => pebble_Peak.mono s k) (peak_f s (by omega)) hk
  obtain ⟨K, hK⟩ := complete_l0 n b s (s.length + 1) _ (by omega) (by omega) (by omega) hP (fun L hL => by
    have h5 := (g L hL).peak 0
    rw [← hs] at h5
    have h6 : 0 ≤ (L : Int) * (b - 1) := Int.mul_nonneg (by omega) (by omega)
    omega) n.toNat 0 (by simp; omega) (by simp) (by omega) (by simp)
  refine ⟨max K 200, ?_⟩
  have ha := upto (fun k => backsteplaw44_awake.mono k) awake_ok (show 200 ≤ max K 200 by omega)
  have hK' := upto (fun k => backsteplaw44_PebbleComplete.mono_l k n b s 0 (s.length : Int) true ((0 : Nat) : Int) (b ^ 0)) hK (show K ≤ max K 200 by omega)
  unfold backsteplaw44_PebbleComplete.f
  rw [ha, Option.bind_some, if_pos rfl, wrap64_of (n := a0) (by omega) (by omega), wrap64_of (n := a1) (by omega) (by omega), hu, hv, ← hn, ← hb, wrap64_of (n := n) (by omega) (by omega), wrap64_of (n := b) (by omega) (by omega), hBen, Option.bind_some, hL, Option.bind_some]
  simpa using hK'
end Go.Proofs.Ytpkamififbhheaa.Pure
