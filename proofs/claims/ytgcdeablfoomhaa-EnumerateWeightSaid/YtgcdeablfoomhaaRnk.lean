/- EnumerateRank returns true. -/
import Derived.Test.YtgcdeablfoomhaaAwa
set_option linter.unusedVariables false
set_option linter.unusedSimpArgs false
namespace Go.Proofs.Ytgcdeablfoomhaa.PAll
open Go.RowKit Go.Proofs.YtgcdeablfoomhaaW.PrintWords Go.Proofs.YtgcdeablfoomhaaW.PrintLast Go.Proofs.YtgcdeablfoomhaaW.PrintMore
attribute [local go_sem] max_two

def rankO (x : Int) : Int := if x > 0 then 2 * x - 1 else -2 * x
def absO (x : Int) : Int := if x < -x then -x else x
theorem rank_f {x : Int} (h : -1099511627776 ≤ x) (h2 : x ≤ 1099511627776) : enumerate_Rank.f x = some (rankO x) := by
  unfold enumerate_Rank.f rankO
  split
  · rw [wrap64_of' (n := 2 * x) (by omega) (by omega), wrap64_of' (by omega) (by omega)]
  · rw [wrap64_of' (by omega) (by omega)]
theorem refrank_f {x : Int} (h : -1099511627776 ≤ x) (h2 : x ≤ 1099511627776) : backstepref12_Rank.f x = some (rankO x) := by
  unfold backstepref12_Rank.f rankO
  split
  · rw [wrap64_of' (n := 2 * x) (by omega) (by omega), wrap64_of' (by omega) (by omega)]
  · rw [wrap64_of' (n := 2 * x) (by omega) (by omega), wrap64_of' (by omega) (by omega)]
    congr 1; omega
theorem unrank_f0 {r : Int} (h : 0 ≤ r) (h2 : r ≤ 4398046511104) : enumerate_Unrank.f r = some (unrank r) := by
  unfold enumerate_Unrank.f unrank
  rw [if_neg (by omega), Int.tmod_eq_emod_of_nonneg h]
  split
  · rw [wrap64_of' (n := r + 1) (by omega) (by omega), Int.tdiv_eq_ediv_of_nonneg (by omega), wrap64_of' (by omega) (by omega)]
  · rw [wrap64_of' (n := -r) (by omega) (by omega)]
    have : Int.tdiv (-r) 2 = -(r / 2) := by rw [Int.neg_tdiv, Int.tdiv_eq_ediv_of_nonneg h]
    rw [this, wrap64_of' (by omega) (by omega)]
theorem rankO_ok {x : Int} (h : -1099511627776 ≤ x) (h2 : x ≤ 1099511627776) : 0 ≤ rankO x ∧ rankO x ≤ 4398046511104 := by
  unfold rankO; split <;> omega
theorem unrank_rankO (x : Int) : unrank (rankO x) = x := by
  unfold unrank rankO
  split <;> split <;> omega
theorem absO_ok {x : Int} (h : -1099511627776 ≤ x) (h2 : x ≤ 1099511627776) : 0 ≤ absO x ∧ absO x ≤ 1099511627776 := by
  unfold absO; split <;> omega

set_option maxRecDepth 100000 in
set_option maxHeartbeats 8000000 in
theorem rank_out (x y : Int) (W : World) (h : ¬ (x ≤ 1099511627776 ∧ -1099511627776 ≤ x ∧ y ≤ 1099511627776 ∧ -1099511627776 ≤ y)) : Calls Try.prog 4 #[.int .i64 x, .int .i64 y] W fun e w' => e = .returned (.bool true) ∧ Below W.heap.size W w' := by
  have fin : ∀ w1 : World, Below W.heap.size W w1 → True := fun _ _ => trivial
  by_cases h1 : 1099511627776 < x
  · have d1 : decide (1099511627776 < x) = true := decide_eq_true h1
    clear h
    go_enter Try.func4, Try.ntmps4
    go_wp2_with (fail)
    refine (awake_calls _).mono ?_
    rintro e w1 ⟨rfl, hb⟩
    go_wp2_with (fail)
    refine (awake_calls _).mono ?_
    rintro e w2 ⟨rfl, hb2⟩
    go_wp2
    go_ret
    exact ⟨rfl, hb.trans (hb2.mono hb.size)⟩
  · have d1 : decide (1099511627776 < x) = false := decide_eq_false h1
    by_cases h2 : x < -1099511627776
    · have d2 : decide (x < -1099511627776) = true := decide_eq_true h2
      clear h
      go_enter Try.func4, Try.ntmps4
      go_wp2_with (fail)
      refine (awake_calls _).mono ?_
      rintro e w1 ⟨rfl, hb⟩
      go_wp2_with (fail)
      refine (awake_calls _).mono ?_
      rintro e w2 ⟨rfl, hb2⟩
      go_wp2
      go_ret
      exact ⟨rfl, hb.trans (hb2.mono hb.size)⟩
    · have d2 : decide (x < -1099511627776) = false := decide_eq_false h2
      by_cases h3 : 1099511627776 < y
      · have d3 : decide (1099511627776 < y) = true := decide_eq_true h3
        clear h
        go_enter Try.func4, Try.ntmps4
        go_wp2_with (fail)
        refine (awake_calls _).mono ?_
        rintro e w1 ⟨rfl, hb⟩
        go_wp2_with (fail)
        refine (awake_calls _).mono ?_
        rintro e w2 ⟨rfl, hb2⟩
        go_wp2
        go_ret
        exact ⟨rfl, hb.trans (hb2.mono hb.size)⟩
      · have d3 : decide (1099511627776 < y) = false := decide_eq_false h3
        have d4 : decide (y < -1099511627776) = true := decide_eq_true (by omega)
        clear h
        go_enter Try.func4, Try.ntmps4
        go_wp2_with (fail)
        refine (awake_calls _).mono ?_
        rintro e w1 ⟨rfl, hb⟩
        go_wp2_with (fail)
        refine (awake_calls _).mono ?_
        rintro e w2 ⟨rfl, hb2⟩
        go_wp2
        go_ret
        exact ⟨rfl, hb.trans (hb2.mono hb.size)⟩

theorem drawn_below {w w' : World} (h : Drawn0 w w') : Below w.heap.size w w' := by
  obtain ⟨n, rfl⟩ := h
  exact pw_below_drewN (Below.refl _ _) n
set_option maxRecDepth 100000 in
set_option maxHeartbeats 8000000 in
theorem rank_in (x y : Int) (W : World) (h1 : x ≤ 1099511627776) (h2 : -1099511627776 ≤ x) (h3 : y ≤ 1099511627776) (h4 : -1099511627776 ≤ y) : Calls Try.prog 4 #[.int .i64 x, .int .i64 y] W fun e w' => e = .returned (.bool true) ∧ Below W.heap.size W w' := by
  have d1 : decide (1099511627776 < x) = false := decide_eq_false (by omega)
  have d2 : decide (x < -1099511627776) = false := decide_eq_false (by omega)
  have d3 : decide (1099511627776 < y) = false := decide_eq_false (by omega)
  have d4 : decide (y < -1099511627776) = false := decide_eq_false (by omega)
  obtain ⟨r, hr⟩ : ∃ r, r = rankO x := ⟨_, rfl⟩
  obtain ⟨q, hq⟩ : ∃ q, q = rankO y := ⟨_, rfl⟩
  obtain ⟨a, ha⟩ : ∃ a, a = absO x := ⟨_, rfl⟩
  obtain ⟨b, hb⟩ : ∃ b, b = absO y := ⟨_, rfl⟩
  have frx := rank_f h2 h1
  have fry := rank_f h4 h3
  have fgx := refrank_f h2 h1
  have rx := rankO_ok h2 h1
  have ry := rankO_ok h4 h3
  have ax := absO_ok h2 h1
  have ay := absO_ok h4 h3
  have fux := unrank_f0 rx.1 rx.2
  have fuy := unrank_f0 ry.1 ry.2
  rw [unrank_rankO] at fux fuy
  rw [← hr] at frx fgx rx fux
  rw [← hq] at fry ry fuy
  rw [← ha] at ax
  rw [← hb] at ay
  have m1 : Builtin.max2 (.int .i64 x) (.int .i64 (-x)) = pure (.int .i64 a) := by rw [max2_int, ha]; rfl
  have m2 : Builtin.max2 (.int .i64 y) (.int .i64 (-y)) = pure (.int .i64 b) := by rw [max2_int, hb]; rfl
  have m3 : Builtin.max2 (.int .i64 a) (.int .i64 0) = pure (.int .i64 a) := by rw [max2_int, if_neg (by omega)]
  have fua : enumerate_Unrank.f (-1 - a) = some 0 := by unfold enumerate_Unrank.f; rw [if_pos (by omega)]
  have hne : a ≠ b → (decide (a < b) == decide (r < q)) = true := by
    intro hn
    have : decide (a < b) = decide (r < q) := by
      apply decide_eq_decide.2
      rw [ha, hb, hr, hq] at *
      unfold absO rankO at *
      split <;> split <;> (try split) <;> (try split) <;> omega
    rw [this]; exact beq_self_eq_true _
  have heq : a = b → (decide (r < q) == decide (y < x)) = true := by
    intro hn
    have : decide (r < q) = decide (y < x) := by
      apply decide_eq_decide.2
      rw [ha, hb] at hn
      rw [hr, hq]
      unfold absO at hn
      unfold rankO
      revert hn
      split <;> split <;> intro hn <;> split <;> split <;> omega
    rw [this]; exact beq_self_eq_true _
  have d5 : decide (r < 0) = false := decide_eq_false (by omega)
  have HRX := Lib.hid frx
  have HRY := Lib.hid fry
  have HGX := Lib.hid fgx
  have HUX := Lib.hid fux
  have HUY := Lib.hid fuy
  have HUA := Lib.hid fua
  have HNE := Lib.hid hne
  have HEQ := Lib.hid heq
  clear frx fry fgx fux fuy fua hne heq hr hq ha hb
  obtain ⟨hx1, hx2⟩ := ax
  obtain ⟨hy1, hy2⟩ := ay
  go_enter Try.func4, Try.ntmps4
  go_wp2_with (fail)
  refine (awake_calls _).mono ?_
  rintro e w1 ⟨rfl, hb1⟩
  have HB1 := Lib.hid hb1
  clear hb1
  go_wp2_with (fail)
  refine (enumerate_Rank.calls x r _ HRX.out).mono ?_
  rintro e w2 ⟨rfl, hb2⟩
  have HB2 := Lib.hid (HB1.out.trans ((drawn_below hb2).mono HB1.out.size))
  clear hb2
  go_wp2_with (fail)
  refine (enumerate_Rank.calls y q _ HRY.out).mono ?_
  rintro e w3 ⟨rfl, hb3⟩
  have HB3 := Lib.hid (HB2.out.trans ((drawn_below hb3).mono HB2.out.size))
  clear hb3
  go_wp2_with (fail)
  refine (enumerate_Unrank.calls r x _ HUX.out).mono ?_
  rintro e w4 ⟨rfl, hb4⟩
  have HB4 := Lib.hid (HB3.out.trans ((drawn_below hb4).mono HB3.out.size))
  clear hb4
  go_wp2_with (fail)
  refine (enumerate_Unrank.calls q y _ HUY.out).mono ?_
  rintro e w5 ⟨rfl, hb5⟩
  have HB5 := Lib.hid (HB4.out.trans ((drawn_below hb5).mono HB4.out.size))
  clear hb5
  go_wp2_with (fail)
  refine (backstepref12_Rank.calls x r _ HGX.out).mono ?_
  rintro e w6 ⟨rfl, hb6⟩
  have HB6 := Lib.hid (HB5.out.trans ((drawn_below hb6).mono HB5.out.size))
  clear hb6
  by_cases hab : a = b
  · have e1 := HEQ.out hab
    subst hab
    go_wp2_with (fail)
    refine (enumerate_Unrank.calls (-1 - a) 0 _ HUA.out).mono ?_
    rintro e w7 ⟨rfl, hb7⟩
    have HB7 := Lib.hid (HB6.out.trans ((drawn_below hb7).mono HB6.out.size))
    clear hb7
    go_wp2
    go_ret
    exact ⟨rfl, HB7.out⟩
  · have e1 := HNE.out hab
    have e2 : (a != b) = true := bne_iff_ne.2 hab
    clear hab
    go_wp2
    go_ret
    exact ⟨rfl, HB6.out⟩
theorem EnumerateRank_calls (x y : Int) (W : World) : Calls Try.prog 4 #[.int .i64 x, .int .i64 y] W fun e w' => e = .returned (.bool true) ∧ Below W.heap.size W w' := by
  by_cases h : x ≤ 1099511627776 ∧ -1099511627776 ≤ x ∧ y ≤ 1099511627776 ∧ -1099511627776 ≤ y
  · exact rank_in x y W h.1 h.2.1 h.2.2.1 h.2.2.2
  · exact rank_out x y W h
end Go.Proofs.Ytgcdeablfoomhaa.PAll
