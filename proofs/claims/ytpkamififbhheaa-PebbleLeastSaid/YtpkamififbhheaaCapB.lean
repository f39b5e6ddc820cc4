/- pebble.Best alone: up to 8 nodes, more than 8 pebbles are as good as 8. -/
import Derived.Test.YtpkamififbhheaaBst
import Derived.Test.YtpkamififbhheaaMon
namespace Go.Proofs.Ytpkamififbhheaa.Pure
open Go.RowKit Go.Proofs.Ytpkamififbhheaa.PAll Go.Proofs.YtpkamififbhheaaW.PrintWords Go.Proofs.YtpkamififbhheaaW.PrintLast Go.Proofs.YtpkamififbhheaaW.PrintMore

theorem ite_cong {α : Type} {c : Prop} [Decidable c] {a a' b b' : α} (h1 : c → a = a') (h2 : ¬ c → b = b') : (if c then a else b) = if c then a' else b' := by
  by_cases h : c
  · rw [if_pos h, if_pos h, h1 h]
  · rw [if_neg h, if_neg h, h2 h]
theorem bind_cong {α β : Type} {x : Option α} {f g : α → Option β} (h : ∀ a, x = some a → f a = g a) : x.bind f = x.bind g := by
  cases x with
  | none => rfl
  | some a => exact h a rfl
def atMost8 : Option Int → Bool
  | some t => decide (t ≤ 8)
  | none => false
theorem flip_count : ∀ c : Fin 256, ∀ m : Fin 8, atMost8 (pebble_count.f 10 (Go.bits .xor .u64 (c.1 : Int) (shl .u64 1 (m.1 : Int)))) = true := by decide +kernel
theorem atMost8_of {o : Option Int} (h : atMost8 o = true) : ∃ t, o = some t ∧ t ≤ 8 := by
  cases o with
  | none => exact absurd h (by simp [atMost8])
  | some t => exact ⟨t, rfl, of_decide_eq_true h⟩
theorem same_val {α : Type} {g : Nat → Option α} (hm : ∀ k, LeO (g k) (g (k + 1))) {k k' : Nat} {r s : α} (h : g k = some r) (h' : g k' = some s) : r = s := by
  have h1 := upto hm h (Nat.le_max_left k k')
  have h2 := upto hm h' (Nat.le_max_right k k')
  rw [h1] at h2; exact Option.some.inj h2
theorem flip_le {k : Nat} {c m t : Int} (hc : 0 ≤ c) (hc2 : c < 256) (hm : 0 ≤ m) (hm2 : m < 8) (h : pebble_count.f k (Go.bits .xor .u64 c (shl .u64 1 m)) = some t) : t ≤ 8 := by
  have hf := flip_count ⟨c.toNat, by omega⟩ ⟨m.toNat, by omega⟩
  have e1 : ((c.toNat : Nat) : Int) = c := by omega
  have e2 : ((m.toNat : Nat) : Int) = m := by omega
  simp only [e1, e2] at hf
  obtain ⟨t', h', hle⟩ := atMost8_of hf
  have := same_val (fun k => pebble_count.mono _ k) h h'
  omega
theorem best1_cap {k : Nat} {c m p q : Int} (hc : 0 ≤ c) (hc2 : c < 256) (hm : 1 ≤ m) (hm2 : m ≤ 8) (hp : 8 ≤ p) (hq : 8 ≤ q) : pebble_Best_1.f k c m p = pebble_Best_1.f k c m q := by
  unfold pebble_Best_1.f
  have hw : wrap64 (m - 1) = m - 1 := wrap64_of (by omega) (by omega)
  rw [hw]
  have key : ∀ D : Int, D = Go.bits .xor .u64 c (shl .u64 1 (m - 1)) → ((pebble_count.f k D).bind fun t => some (D, decide (t ≤ p))) = ((pebble_count.f k D).bind fun t => some (D, decide (t ≤ q))) := by
    intro D hD
    refine bind_cong fun t ht => ?_
    rw [hD] at ht
    have := flip_le hc hc2 (by omega) (by omega) ht
    rw [decide_eq_true (show t ≤ p by omega), decide_eq_true (show t ≤ q by omega)]
  refine ite_cong (fun _ => ite_cong (fun _ => ite_cong (fun _ => rfl) (fun _ => ite_cong (fun _ => key _ rfl) (fun _ => rfl))) (fun _ => rfl)) (fun _ => ite_cong (fun _ => key _ rfl) (fun _ => rfl))
theorem rd_in {l : List Int} (h : ∀ x ∈ l, 0 ≤ x ∧ x < 256) {i : Int} (h0 : 0 ≤ i) (h1 : i < l.length) : 0 ≤ rd l i ∧ rd l i < 256 := by
  have e : i = ((i.toNat : Nat) : Int) := by omega
  rw [e, rd_of (by omega)]
  exact h _ (List.getElem_mem _)
theorem best_cap_l {n p q x6 : Int} (hn : 1 ≤ n) (hn8 : n ≤ 8) (hp : 8 ≤ p) (hq : 8 ≤ q) (h6 : 0 ≤ x6) (h62 : x6 < 256) : ∀ k : Nat,
    (∀ (x7 x10 : List Int) (x11 : Int), x7.length ≤ 256 → (∀ x ∈ x10, 0 ≤ x ∧ x < 256) → pebble_Best.l1 k n p x6 x7 x10 x11 = pebble_Best.l1 k n q x6 x7 x10 x11) ∧
    (∀ (x7 x10 : List Int) (x11 x12 : Int), x7.length ≤ 256 → (∀ x ∈ x10, 0 ≤ x ∧ x < 256) → 1 ≤ x12 → pebble_Best.l2 k n p x6 x7 x10 x11 x12 = pebble_Best.l2 k n q x6 x7 x10 x11 x12) ∧
    (∀ (x7 x15 : List Int) (x16 : Int), x7.length ≤ 256 → 0 ≤ x16 → x16 < 256 → pebble_Best.l3 k n p x6 x7 x15 x16 = pebble_Best.l3 k n q x6 x7 x15 x16) ∧
    (∀ (x7 x15 : List Int) (x16 x17 : Int), x7.length ≤ 256 → 0 ≤ x16 → x16 < 256 → -8 ≤ x17 → pebble_Best.l4 k n p x6 x7 x15 x16 x17 = pebble_Best.l4 k n q x6 x7 x15 x16 x17) ∧
    (∀ (x7 x15 : List Int) (x16 x17 x18 : Int) (b : Bool), x7.length ≤ 256 → 0 ≤ x16 → x16 < 256 → -8 ≤ x17 → x17 ≤ n → (b = false → 1 ≤ x18 ∧ x18 ≤ 8) → pebble_Best.j6 k n p x6 x7 x15 x16 x17 x18 b = pebble_Best.j6 k n q x6 x7 x15 x16 x17 x18 b)
  | 0 => ⟨fun _ _ _ _ _ => rfl, fun _ _ _ _ _ _ _ => rfl, fun _ _ _ _ _ _ => rfl, fun _ _ _ _ _ _ _ _ => rfl, fun _ _ _ _ _ _ _ _ _ _ _ _ => rfl⟩
  | k + 1 => by
    obtain ⟨i1, i2, i3, i4, i6⟩ := best_cap_l hn hn8 hp hq h6 h62 k
    refine ⟨?_, ?_, ?_, ?_, ?_⟩
    · intro x7 x10 x11 h7 h10
      unfold pebble_Best.l1
      exact ite_cong (fun _ => i2 _ _ _ _ h7 h10 (by omega)) (fun _ => ite_cong (fun _ => ite_cong (fun _ => rfl) (fun _ => i3 _ _ _ h7 (by omega) (by omega))) (fun _ => rfl))
    · intro x7 x10 x11 x12 h7 h10 h12
      unfold pebble_Best.l2
      refine ite_cong (fun c1 => ite_cong (fun c2 => ite_cong (fun c3 => ?_) (fun _ => rfl)) (fun _ => rfl)) (fun _ => i1 _ _ _ h7 h10)
      have hr := rd_in h10 c2 c3
      rw [best1_cap (k := k) hr.1 hr.2 h12 (by omega) hp hq]
      have hw : wrap64 (x12 + 1) = x12 + 1 := wrap64_of (by omega) (by omega)
      rw [hw]
      refine bind_cong fun bt _ => ite_cong (fun _ => ite_cong (fun d1 => ite_cong (fun d2 => ite_cong (fun _ => ite_cong (fun _ => ite_cong (fun _ => ite_cong (fun _ => ?_) (fun _ => rfl)) (fun _ => rfl)) (fun _ => rfl)) (fun _ => i2 _ _ _ _ h7 h10 (by omega))) (fun _ => rfl)) (fun _ => rfl)) (fun _ => i2 _ _ _ _ h7 h10 (by omega))
      refine i2 _ _ _ _ (by simpa using h7) (fun x hx => ?_) (by omega)
      rcases List.mem_append.1 hx with hx | hx
      · exact h10 x hx
      · rw [List.mem_singleton.1 hx]; omega
    · intro x7 x15 x16 h7 h0 h1
      unfold pebble_Best.l3
      exact ite_cong (fun _ => rfl) (fun _ => i4 _ _ _ _ h7 h0 h1 (by rw [wrap64_of (by omega) (by omega)]; omega))
    · intro x7 x15 x16 x17 h7 h0 h1 h17
      unfold pebble_Best.l4
      refine ite_cong (fun c1 => ite_cong (fun _ => i6 _ _ _ _ _ _ h7 h0 h1 h17 c1 (fun h => absurd h (by simp))) (fun c2 => ite_cong (fun _ => i6 _ _ _ _ _ _ h7 h0 h1 h17 c1 (fun _ => ?_)) (fun _ => rfl))) (fun _ => i3 _ _ _ h7 h0 h1)
      rw [wrap64_of (by omega) (by omega)]
      unfold mx
      split <;> omega
    · intro x7 x15 x16 x17 x18 b h7 h0 h1 h17 hn17 hb
      unfold pebble_Best.j6
      have hw : wrap64 (x17 + 1) = x17 + 1 := wrap64_of (by omega) (by omega)
      rw [hw]
      refine ite_cong (fun _ => i4 _ _ _ _ h7 h0 h1 (by omega)) (fun c1 => ?_)
      obtain ⟨g1, g2⟩ := hb (by simpa using c1)
      rw [best1_cap (k := k) h0 h1 g1 g2 hp hq]
      exact bind_cong fun bt _ => ite_cong (fun _ => ite_cong (fun d1 => ite_cong (fun d2 => ite_cong (fun _ => ite_cong (fun _ => ite_cong (fun _ => ite_cong (fun _ => i3 _ _ _ h7 (by omega) (by omega)) (fun _ => rfl)) (fun _ => i4 _ _ _ _ h7 h0 h1 (by omega))) (fun _ => rfl)) (fun _ => rfl)) (fun _ => rfl)) (fun _ => rfl)) (fun _ => i4 _ _ _ _ h7 h0 h1 (by omega))
theorem best_cap_l0 {n p q x6 : Int} (hn : 1 ≤ n) (hn8 : n ≤ 8) (hp : 8 ≤ p) (hq : 8 ≤ q) (h6 : 0 ≤ x6) (h62 : x6 < 256) (x38 : Int) : ∀ (k : Nat) (x7 : List Int) (x39 : Int), x7.length ≤ 256 →
    pebble_Best.l0 k n p x6 x7 x38 x39 = pebble_Best.l0 k n q x6 x7 x38 x39
  | 0, _, _, _ => rfl
  | k + 1, x7, x39, h7 => by
    unfold pebble_Best.l0
    refine ite_cong (fun _ => ite_cong (fun _ => ite_cong (fun _ => best_cap_l0 hn hn8 hp hq h6 h62 x38 k _ _ (by simpa using h7)) (fun _ => rfl)) (fun _ => rfl)) (fun _ => ite_cong (fun _ => ite_cong (fun _ => ?_) (fun _ => rfl)) (fun _ => rfl))
    exact (best_cap_l hn hn8 hp hq h6 h62 k).1 _ _ _ (by simpa using h7) (fun x hx => by rw [List.mem_singleton.1 hx]; omega)
theorem shl_i64 {n : Int} (hn : 1 ≤ n) (hn8 : n ≤ 8) : (shl .i64 1 n).toNat ≤ 256 ∧ 0 ≤ shl .u64 1 (wrap64 (n - 1)) ∧ shl .u64 1 (wrap64 (n - 1)) < 256 := by
  obtain rfl | rfl | rfl | rfl | rfl | rfl | rfl | rfl : n = 1 ∨ n = 2 ∨ n = 3 ∨ n = 4 ∨ n = 5 ∨ n = 6 ∨ n = 7 ∨ n = 8 := by omega
  all_goals decide +kernel
theorem best_cap {k : Nat} {n p q : Int} (hn : 1 ≤ n) (hn8 : n ≤ 8) (hp : 8 ≤ p) (hq : 8 ≤ q) : pebble_Best.f k n p = pebble_Best.f k n q := by
  have hs := shl_i64 hn hn8
  unfold pebble_Best.f
  refine ite_cong (fun _ => by omega) (fun _ => ite_cong (fun _ => by omega) (fun _ => ?_))
  rw [decide_eq_false (show ¬ p < 1 by omega), decide_eq_false (show ¬ q < 1 by omega)]
  cases k with
  | zero => rfl
  | succ k =>
    unfold pebble_Best.j0
    refine ite_cong (fun _ => rfl) (fun _ => ite_cong (fun _ => ite_cong (fun _ => ite_cong (fun _ => ite_cong (fun _ => ?_) (fun _ => rfl)) (fun _ => rfl)) (fun _ => rfl)) (fun _ => rfl))
    exact best_cap_l0 hn hn8 hp hq hs.2.1 hs.2.2 _ k _ _ (by simpa using hs.1)
end Go.Proofs.Ytpkamififbhheaa.Pure
