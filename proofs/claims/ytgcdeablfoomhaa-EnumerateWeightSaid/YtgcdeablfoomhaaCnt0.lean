/- enumerate.Count: plain functions; its two closures. -/
import Derived.Test.YtgcdeablfoomhaaAll0
set_option linter.unusedVariables false
set_option linter.unusedSimpArgs false
namespace Go.Proofs.Ytgcdeablfoomhaa.PAll
open Go.RowKit Go.Proofs.YtgcdeablfoomhaaW.PrintWords Go.Proofs.YtgcdeablfoomhaaW.PrintLast Go.Proofs.YtgcdeablfoomhaaW.PrintMore

def satO (x : Int) : Int := if 1099511627777 < x then 1099511627777 else x
def timesO (a b : Int) : Int := satO (a * b)
theorem satO_le (x : Int) : satO x ≤ 1099511627777 := by unfold satO; split <;> omega
theorem satO_ge {x : Int} (h : 1 ≤ x) : 1 ≤ satO x := by unfold satO; split <;> omega
theorem satO_0 {x : Int} (h : 0 ≤ x) : 0 ≤ satO x := by unfold satO; split <;> omega
theorem times_f {a b : Int} (h0 : 0 ≤ a) (h1 : a ≤ 1099511627777) (h2 : 1 ≤ b) (h3 : b ≤ 1099511627777) : enumerate_times.f a b = some (timesO a b) := by
  have hq0 : 0 ≤ (1099511627776 : Int) / b := Int.ediv_nonneg (by decide) (by omega)
  have hq1 : (1099511627776 : Int) / b ≤ 1099511627776 := Int.ediv_le_self _ (by decide)
  unfold enumerate_times.f
  rw [if_neg (by omega), wrap64_of' (n := (1099511627776 : Int) / b) (by omega) (by omega)]
  by_cases h : a > 1099511627776 / b
  · rw [if_pos h]
    have h4 : (1099511627776 : Int) < (1099511627776 / b + 1) * b := Int.lt_ediv_add_one_mul_self _ (by omega)
    have h5 : (1099511627776 / b + 1) * b ≤ a * b := Int.mul_le_mul_of_nonneg_right (by omega) (by omega)
    unfold timesO satO
    by_cases h6 : 1099511627777 < a * b
    · rw [if_pos h6]
    · rw [if_neg h6]
      congr 1; omega
  · rw [if_neg h]
    have h4 : a * b ≤ 1099511627776 / b * b := Int.mul_le_mul_of_nonneg_right (by omega) (by omega)
    have h5 : 1099511627776 / b * b ≤ 1099511627776 := Int.ediv_mul_le _ (by omega)
    have h6 : 0 ≤ a * b := Int.mul_nonneg h0 (by omega)
    rw [wrap64_of' (n := a * b) (by omega) (by omega)]
    unfold timesO satO mn
    rfl
/-- v to the n-th, up to one more than the limit. -/
def powO (v : Int) : Nat → Int
  | 0 => 1
  | n + 1 => timesO (powO v n) v
theorem powO_ok {v : Int} (h : 1 ≤ v) : ∀ n, 1 ≤ powO v n ∧ powO v n ≤ 1099511627777
  | 0 => ⟨by simp [powO], by simp [powO]⟩
  | n + 1 => by
    have := powO_ok h n
    refine ⟨satO_ge ?_, satO_le _⟩
    have h2 : 1 * 1 ≤ powO v n * v := Int.mul_le_mul this.1 h (by decide) (by omega)
    omega
/-- How many lists are shorter than n. -/
def upO (v : Int) : Nat → Int
  | 0 => 0
  | n + 1 => satO (upO v n + powO v n)
theorem upO_ok {v : Int} (h : 1 ≤ v) : ∀ n, 0 ≤ upO v n ∧ upO v n ≤ 1099511627777
  | 0 => ⟨by simp [upO], by simp [upO]⟩
  | n + 1 => by
    have h1 := upO_ok h n
    have h2 := powO_ok h n
    exact ⟨satO_0 (by omega), satO_le _⟩
theorem upO_pos {v : Int} (h : 1 ≤ v) (n : Nat) : 1 ≤ upO v (n + 1) := by
  have h1 := upO_ok h n
  have h2 := powO_ok h n
  exact satO_ge (by omega)
attribute [local go_sem] min_two

set_option maxRecDepth 100000 in
set_option maxHeartbeats 2000000 in
theorem pow_calls (n : Nat) (V : Nat) (v : Int) (w : World) (hv : w.cell? ⟨V, 0, none⟩ = some (.int .i64 v)) (h0 : 1 ≤ v) (h1 : v ≤ 1099511627777) (hn : n ≤ 100000) :
    Calls Try.prog 42 #[.int .i64 (n : Int), .pointer (some ⟨V, 0, none⟩)] w fun e w' => e = .returned (.int .i64 (powO v n)) ∧ Below w.heap.size w w' := by
  have HV := Lib.hid hv
  clear hv
  go_enter Try.func42, Try.ntmps42
  go_wp2
  go_loopw [4, 6] (fun p i wr => ∃ k : Nat, k ≤ n ∧ i = .int .i64 k ∧ p = .int .i64 (powO v k) ∧ Aside0 (Below w.heap.size w wr)) (fun _ i _ => n - (intOf i).toNat)
  case atStart => exact ⟨0, Nat.zero_le _, rfl, rfl, ⟨Below.refl _ _⟩⟩
  case round =>
    obtain ⟨k, hk, rfl, rfl, HB⟩ := hrel
    by_cases hlt : k < n
    · have d1 : decide (k < n) = true := decide_eq_true hlt
      have hx := (HB.out.cell (World.block_lt_of_cell? _ _ HV.out)).trans HV.out
      have hp := powO_ok h0 k
      have HT := Lib.hid (times_f (by omega) hp.2 h0 h1)
      obtain ⟨q, hq⟩ : ∃ q, q = powO v k := ⟨_, rfl⟩
      rw [← hq] at HT ⊢
      have HQ : Hid (timesO q v = powO v (k + 1)) := Lib.hid (by rw [hq]; rfl)
      clear hq hp
      go_wp2_with (fail)
      refine (enumerate_times.calls _ _ _ _ HT.out).mono ?_
      rintro e w1 ⟨rfl, hb⟩
      rw [HQ.out]
      have HB1 := Lib.hid (HB.out.trans (hb.mono HB.out.size))
      clear hb HB hx
      go_wp2
      go_roundw
      case rel => exact ⟨k + 1, by omega, by go_num, rfl, ⟨HB1.out⟩⟩
      case measure => simp [intOf]; omega
    · have d1 : decide (k < n) = false := decide_eq_false hlt
      obtain rfl : k = n := by omega
      go_wp2
      go_ret
      exact ⟨rfl, HB.out⟩

set_option maxRecDepth 100000 in
set_option maxHeartbeats 2000000 in
theorem up_calls (n : Nat) (V : Nat) (v : Int) (w : World) (hv : w.cell? ⟨V, 0, none⟩ = some (.int .i64 v)) (h0 : 1 ≤ v) (h1 : v ≤ 1099511627777) (hn : n ≤ 100000) :
    Calls Try.prog 44 #[.int .i64 (n : Int), .pointer (some ⟨V, 0, none⟩)] w fun e w' => e = .returned (.int .i64 (upO v (n + 1))) ∧ Below w.heap.size w w' := by
  have HV := Lib.hid hv
  clear hv
  go_enter Try.func44, Try.ntmps44
  go_wp2
  go_loopw [4, 5, 8] (fun s p i wr => ∃ k : Nat, k ≤ n + 1 ∧ i = .int .i64 k ∧ s = .int .i64 (upO v k) ∧ p = .int .i64 (powO v k) ∧ Aside0 (Below w.heap.size w wr)) (fun _ _ i _ => n + 1 - (intOf i).toNat)
  case atStart => exact ⟨0, Nat.zero_le _, rfl, rfl, rfl, ⟨Below.refl _ _⟩⟩
  case round =>
    obtain ⟨k, hk, rfl, rfl, rfl, HB⟩ := hrel
    by_cases hlt : k < n + 1
    · have d1 : decide ((k : Int) < (n : Int) + 1) = true := decide_eq_true (by omega)
      have hx := (HB.out.cell (World.block_lt_of_cell? _ _ HV.out)).trans HV.out
      have hp := powO_ok h0 k
      have hu := upO_ok h0 k
      have HT := Lib.hid (times_f (by omega) hp.2 h0 h1)
      obtain ⟨q, hq⟩ : ∃ q, q = powO v k := ⟨_, rfl⟩
      obtain ⟨s, hs⟩ : ∃ s, s = upO v k := ⟨_, rfl⟩
      rw [← hq] at HT hp ⊢
      rw [← hs] at hu ⊢
      have HQ : Hid (timesO q v = powO v (k + 1)) := Lib.hid (by rw [hq]; rfl)
      have HS : Hid (satO (s + q) = upO v (k + 1)) := Lib.hid (by rw [hq, hs]; rfl)
      have hm : Builtin.min2 (.int .i64 (s + q)) (.int .i64 1099511627777) = pure (.int .i64 (satO (s + q))) := by
        rw [min2_int]; rfl
      have hsq : s + q ≤ 3000000000000 := by omega
      have hsq0 : 0 ≤ s + q := by omega
      clear hq hs hp hu
      go_wp2_with (fail)
      refine (enumerate_times.calls _ _ _ _ HT.out).mono ?_
      rintro e w1 ⟨rfl, hb⟩
      rw [HQ.out, HS.out]
      have HB1 := Lib.hid (HB.out.trans (hb.mono HB.out.size))
      clear hb HB hx hm
      go_wp2
      go_roundw
      case rel => exact ⟨k + 1, by omega, by go_num, rfl, rfl, ⟨HB1.out⟩⟩
      case measure => simp [intOf]; omega
    · have d1 : decide ((k : Int) < (n : Int) + 1) = false := decide_eq_false (by omega)
      obtain rfl : k = n + 1 := by omega
      go_wp2
      go_ret
      exact ⟨rfl, HB.out⟩
end Go.Proofs.Ytgcdeablfoomhaa.PAll
