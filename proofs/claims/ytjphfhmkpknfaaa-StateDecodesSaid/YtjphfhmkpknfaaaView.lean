/- state.view's closure: what it reads, as a plain function, and that a call of it comes to just that. -/
import Derived.Test.YtjphfhmkpknfaaaPAllx0
import Derived.RangeFuncBox
import Derived.RangeFuncNested
import Derived.Lib.Hide
import Derived.Laws.EntriesVeiled
set_option linter.unusedVariables false
set_option linter.unusedSimpArgs false
namespace Go.Proofs.Ytjphfhmkpknfaaa.PAll
open Go.RowKit Go.Proofs.YtjphfhmkpknfaaaW.PrintWords Go.Proofs.YtjphfhmkpknfaaaW.PrintLast Go.Proofs.YtjphfhmkpknfaaaW.PrintMore
attribute [local go_sem] max2_int min2_int max_two min_two max_three min_three max_four min_four

def viewAt (l : List Int) (cell at' : Int) : Int :=
  if (if cell = -1 then (l.length : Int) - 1 - at' else at') < 0 then 0 else if (l.length : Int) ≤ (if cell = -1 then (l.length : Int) - 1 - at' else at') then 0 else rd l (if cell = -1 then (l.length : Int) - 1 - at' else at')

theorem wrap64_of' {n : Int} (h : -9223372036854775808 ≤ n) (h2 : n < 9223372036854775808) : wrap64 n = n := by
  unfold wrap64; omega

set_option maxRecDepth 100000 in
set_option maxHeartbeats 2000000 in
theorem view1_calls (at' cell : Int) (A : Option Addr) (c : Nat) (l : List Int) (w : World) (B1 B2 : Nat) (ha : 0 ≤ at') (ha2 : at' ≤ 1099511627776) (hl : l.length ≤ 1099511627776)
    (h1 : w.cell? ⟨B1, 0, none⟩ = some (.int .i64 cell)) (h2 : w.cell? ⟨B2, 0, none⟩ = some (.slice A l.length c)) (hr : Kd.C (Kd.int .i64) w A l.length l) :
    Calls Try.prog 54 #[.int .i64 at', .pointer (some ⟨B1, 0, none⟩), .pointer (some ⟨B2, 0, none⟩)] w fun e w' => e = .returned (.int .i64 (viewAt l cell at')) ∧ w' = w := by
  have HR := Lib.hid hr
  clear hr
  unfold viewAt
  by_cases hc : cell = -1
  · subst hc
    have e1 : wrap64 (wrap64 ((l.length : Int) - 1) - at') = (l.length : Int) - 1 - at' := by rw [wrap64_of' (n := (l.length : Int) - 1) (by omega) (by omega), wrap64_of' (by omega) (by omega)]
    obtain ⟨j, hj⟩ : ∃ j, (l.length : Int) - 1 - at' = j := ⟨_, rfl⟩
    rw [hj] at e1
    simp only [if_pos, hj]
    by_cases c1 : j < 0
    · have c1b : decide (j < 0) = true := decide_eq_true c1
      rw [if_pos c1]
      go_enter Try.func54, Try.ntmps54
      go_wp2
      go_ret
      exact ⟨rfl, rfl⟩
    · have c1b : decide (j < 0) = false := decide_eq_false c1
      rw [if_neg c1]
      by_cases c2 : (l.length : Int) ≤ j
      · have c2b : decide ((l.length : Int) ≤ j) = true := decide_eq_true c2
        rw [if_pos c2]
        go_enter Try.func54, Try.ntmps54
        go_wp2
        go_ret
        exact ⟨rfl, rfl⟩
      · have c2b : decide ((l.length : Int) ≤ j) = false := decide_eq_false c2
        rw [if_neg c2]
        obtain ⟨ad, rfl, hx⟩ := Kd.at_int HR.out j (by omega) (by omega)
        have p1 : (0 ≤ j) = True := eq_true (by omega)
        have p2 : (j < (l.length : Int)) = True := eq_true (by omega)
        go_enter Try.func54, Try.ntmps54
        go_wp2
        go_ret
        exact ⟨rfl, rfl⟩
  · have hcb : (cell == -1) = false := by simpa using hc
    obtain ⟨j, hj⟩ : ∃ j, at' = j := ⟨_, rfl⟩
    simp only [if_neg hc]
    subst hj
    by_cases c1 : at' < 0
    · have c1b : decide (at' < 0) = true := decide_eq_true c1
      rw [if_pos c1]
      go_enter Try.func54, Try.ntmps54
      go_wp2
      go_ret
      exact ⟨rfl, rfl⟩
    · have c1b : decide (at' < 0) = false := decide_eq_false c1
      rw [if_neg c1]
      by_cases c2 : (l.length : Int) ≤ at'
      · have c2b : decide ((l.length : Int) ≤ at') = true := decide_eq_true c2
        rw [if_pos c2]
        go_enter Try.func54, Try.ntmps54
        go_wp2
        go_ret
        exact ⟨rfl, rfl⟩
      · have c2b : decide ((l.length : Int) ≤ at') = false := decide_eq_false c2
        rw [if_neg c2]
        obtain ⟨ad, rfl, hx⟩ := Kd.at_int HR.out at' (by omega) (by omega)
        have p1 : (0 ≤ at') = True := eq_true (by omega)
        have p2 : (at' < (l.length : Int)) = True := eq_true (by omega)
        go_enter Try.func54, Try.ntmps54
        go_wp2
        go_ret
        exact ⟨rfl, rfl⟩

abbrev viewV (B1 B2 : Nat) : Value := .func (.func 54) #[] #[.pointer (some ⟨B1, 0, none⟩), .pointer (some ⟨B2, 0, none⟩)]
set_option maxRecDepth 100000 in
theorem view_calls (cell : Int) (A : Option Addr) (c : Nat) (l : List Int) (w : World) :
    Calls Try.prog 35 #[.slice A l.length c, .int .i64 cell] w fun e w' => e = .returned (viewV (w.heap.size + 1) w.heap.size) ∧ w' = (w.alloc (.cells #[.slice A l.length c] 23)).alloc (.cells #[.int .i64 cell] 3) := by
  go_enter Try.func35, Try.ntmps35
  go_wp2
  go_ret
  exact ⟨by simp, rfl⟩
end Go.Proofs.Ytjphfhmkpknfaaa.PAll
