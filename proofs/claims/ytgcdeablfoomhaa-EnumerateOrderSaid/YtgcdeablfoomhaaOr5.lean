/- Lemmas and walks of one claim, packed into one text by a program (wip/shake.py). -/
import Derived.ChangeArms
import Derived.DataElems
import Derived.OpenShut
import Derived.ProofKit
import Derived.WalkKit
import Derived.Test.YtgcdeablfoomhaaOr4
section
set_option linter.unusedVariables false
set_option linter.unusedSimpArgs false
namespace Go.Proofs.Ytgcdeablfoomhaa.PAll
open Go.RowKit Go.Proofs.YtgcdeablfoomhaaW.PrintWords Go.Proofs.YtgcdeablfoomhaaW.PrintLast Go.Proofs.YtgcdeablfoomhaaW.PrintMore
theorem rd_at {l : List Int} {j : Nat} (h : j < l.length) : rd l (j : Int) = l[j] := by unfold rd; simp [h]
theorem rdL_at {l : List (List Int)} {j : Nat} (h : j < l.length) : rd_L4 l (j : Int) = l[j] := by unfold rd_L4; simp [h]
theorem cast_succ (j : Nat) : (j : Int) + 1 = ((j + 1 : Nat) : Int) := by omega
theorem lists_f (l0 : List (List Int)) (l1 l2 : List Int) (h : l0.length ≤ 5864062014634) : enumerate_lists.f l0 l1 l2 = some (l0 ++ [l1, l2]) := by
  unfold enumerate_lists.f
  simp only [Option.bind_some, List.length_nil, List.nil_append, List.length_cons]
  rw [if_pos (by omega), if_pos (by omega)]
theorem reflists_l0 (l0 : List (List Int)) (l1 l2 : List Int) (h : l0.length ≤ 5864062014634) : ∀ (m j : Nat) (acc : List (List Int)), j + m = l0.length → acc.length = j → ∃ k, backstepref12_lists.l0 k acc (j : Int) l0 l1 l2 = some (acc ++ (l0.drop j ++ [l1, l2]))
  | 0, j, acc, hj, ha => ⟨1, by
    unfold backstepref12_lists.l0
    rw [if_neg (by omega), List.drop_eq_nil_of_le (by omega)]
    simp only [Option.bind_some, List.length_cons, List.length_nil, List.nil_append]
    rw [if_pos (by omega)]⟩
  | m + 1, j, acc, hj, ha => by
    have hlt : j < l0.length := by omega
    obtain ⟨k, hk⟩ := reflists_l0 l0 l1 l2 h m (j + 1) (acc ++ [l0[j]]) (by omega) (by simp; omega)
    refine ⟨k + 1, ?_⟩
    unfold backstepref12_lists.l0
    rw [if_pos (by omega), if_pos (by omega), if_pos (by omega), rdL_at hlt, wrap64_of' (by omega) (by omega), cast_succ, hk, List.drop_eq_getElem_cons hlt, List.append_assoc]
    rfl
theorem reflists_f (l0 : List (List Int)) (l1 l2 : List Int) (h : l0.length ≤ 5864062014634) : ∃ k, backstepref12_lists.f k l0 l1 l2 = some (l0 ++ [l1, l2]) := by
  obtain ⟨k, hk⟩ := reflists_l0 l0 l1 l2 h l0.length 0 [] (by omega) rfl
  exact ⟨k, by unfold backstepref12_lists.f; simpa using hk⟩
/-- What fits. -/
def inR (x : Int) : Bool := decide (x ≤ 1099511627776) && decide (-1099511627776 ≤ x)
theorem inR_iff {x : Int} : inR x = true ↔ x ≤ 1099511627776 ∧ -1099511627776 ≤ x := by simp [inR]
/-- How many numbers, as_ the machine counts them. -/
def manyW (n : Int) : List (List Int) → Int
  | [] => n
  | l :: r => manyW (wrap64 (n + (l.length : Int))) r
def fitsL (L : List (List Int)) : Bool := L.all (fun l => l.all inR) && decide (manyW 0 L ≤ 65536)
theorem fits_l1 (L : List (List Int)) (n : Int) (i : Nat) (hi : i < L.length) (r : Bool) (hr : ∃ k, backstepref12_Fits.l0 k L n ((i : Int) + 1) = some r) (hll : L.length ≤ 9000000000000) (hrl : L[i].length ≤ 9223372036854775807) :
    ∀ (m j : Nat), j + m = L[i].length → ∃ k, backstepref12_Fits.l1 k L n (i : Int) (j : Int) = some (if (L[i].drop j).all inR = true then r else false)
  | 0, j, hj => by
    obtain ⟨k, hk⟩ := hr
    refine ⟨k + 1, ?_⟩
    unfold backstepref12_Fits.l1
    rw [if_pos (by omega), if_pos (by omega), rdL_at hi, if_neg (by omega), wrap64_of' (by omega) (by omega), hk, List.drop_eq_nil_of_le (by omega)]
    simp
  | m + 1, j, hj => by
    have hlt : j < L[i].length := by omega
    obtain ⟨k, hk⟩ := fits_l1 L n i hi r hr hll hrl m (j + 1) (by omega)
    refine ⟨k + 1, ?_⟩
    unfold backstepref12_Fits.l1
    rw [if_pos (by omega), if_pos (by omega), rdL_at hi, if_pos (by omega), if_pos (by omega), rd_at hlt, List.drop_eq_getElem_cons hlt, List.all_cons]
    by_cases h1 : L[i][j] > 1099511627776
    · rw [if_pos h1]
      have : inR L[i][j] = false := by simp [inR]; omega
      simp [this]
    · rw [if_neg h1]
      by_cases h2 : L[i][j] < -1099511627776
      · rw [if_pos h2]
        have : inR L[i][j] = false := by simp [inR]; omega
        simp [this]
      · rw [if_neg h2, wrap64_of' (by omega) (by omega), cast_succ, hk]
        have : inR L[i][j] = true := inR_iff.2 ⟨by omega, by omega⟩
        simp [this]
theorem fits_l0 (L : List (List Int)) (hll : L.length ≤ 9000000000000) (hrl : ∀ l ∈ L, l.length ≤ 9223372036854775807) : ∀ (m i : Nat) (n : Int), i + m = L.length → ∃ k, backstepref12_Fits.l0 k L n (i : Int) = some ((L.drop i).all (fun l => l.all inR) && decide (manyW n (L.drop i) ≤ 65536))
  | 0, i, n, hi => ⟨1, by
    unfold backstepref12_Fits.l0
    rw [if_neg (by omega), List.drop_eq_nil_of_le (by omega)]
    rfl⟩
  | m + 1, i, n, hi => by
    have hlt : i < L.length := by omega
    obtain ⟨k0, hk0⟩ := fits_l0 L hll hrl m (i + 1) (wrap64 (n + (L[i].length : Int))) (by omega)
    obtain ⟨k, hk⟩ := fits_l1 L (wrap64 (n + (L[i].length : Int))) i hlt _ ⟨k0, by rw [cast_succ]; exact hk0⟩ hll (hrl _ (List.getElem_mem hlt)) L[i].length 0 (by omega)
    refine ⟨k + 1, ?_⟩
    unfold backstepref12_Fits.l0
    rw [if_pos (by omega), if_pos (by omega), rdL_at hlt, show (0 : Int) = ((0 : Nat) : Int) from rfl, hk, List.drop_eq_getElem_cons hlt, List.all_cons, manyW, List.drop_zero]
    cases L[i].all inR <;> simp
theorem fits_f (l0 : List (List Int)) (l1 l2 : List Int) (h : l0.length ≤ 5864062014634) (hrl : ∀ l ∈ l0 ++ [l1, l2], l.length ≤ 9223372036854775807) : ∃ k, backstepref12_Fits.f k l0 l1 l2 = some (fitsL (l0 ++ [l1, l2])) := by
  obtain ⟨k1, h1⟩ := reflists_f l0 l1 l2 h
  obtain ⟨k2, h2⟩ := fits_l0 (l0 ++ [l1, l2]) (by simp; omega) hrl (l0 ++ [l1, l2]).length 0 0 (by omega)
  have m1 : ∀ d, backstepref12_lists.f (k1 + d) l0 l1 l2 = some (l0 ++ [l1, l2]) := fun d => by
    induction d with
    | zero => exact h1
    | succ d ih => exact backstepref12_lists.mono _ _ _ _ _ ih
  have m2 : ∀ d, backstepref12_Fits.l0 (k2 + d) (l0 ++ [l1, l2]) 0 0 = some (fitsL (l0 ++ [l1, l2])) := fun d => by
    induction d with
    | zero => exact h2
    | succ d ih => exact (backstepref12_Fits.mono_l _).1 _ _ _ _ ih
  refine ⟨k1 + k2, ?_⟩
  unfold backstepref12_Fits.f
  rw [m1 k2]
  simp only [Option.bind_some]
  rw [Nat.add_comm]
  exact m2 k1
/-- The weight, as_ the machine reckons it. -/
def wlW (w : Int) : List Int → Int
  | [] => w
  | x :: r => wlW (wrap64 (w + (rankO x + 1))) r
def wtW (w : Int) : List (List Int) → Int
  | [] => w
  | l :: r => wtW (wlW w l) r
theorem wrap_in (a b : Int) : wrap64 (a + wrap64 b) = wrap64 (a + b) := by unfold wrap64; omega
theorem weight_l1 (L : List (List Int)) (n i : Int) (row : List Int) (r : Int) (R : Int → Int) (hr : ∀ w, ∃ k, enumerate_Weight.l0 k w L n (wrap64 (i + 1)) = some (R w)) (hin : row.all inR = true) (hrl : row.length ≤ 9223372036854775807) :
    ∀ (m j : Nat) (w : Int), j + m = row.length → ∃ k, enumerate_Weight.l1 k w L n i row (row.length : Int) (j : Int) = some (R (wlW w (row.drop j)))
  | 0, j, w, hj => by
    obtain ⟨k, hk⟩ := hr w
    refine ⟨k + 1, ?_⟩
    unfold enumerate_Weight.l1
    rw [if_neg (by omega), hk, List.drop_eq_nil_of_le (by omega)]
    rfl
  | m + 1, j, w, hj => by
    have hlt : j < row.length := by omega
    obtain ⟨k, hk⟩ := weight_l1 L n i row r R hr hin hrl m (j + 1) (wrap64 (w + (rankO row[j] + 1))) (by omega)
    have hx := inR_iff.1 (List.all_eq_true.1 hin _ (List.getElem_mem hlt))
    refine ⟨k + 1, ?_⟩
    unfold enumerate_Weight.l1
    rw [if_pos (by omega), if_pos (by omega), if_pos (by omega), rd_at hlt, rank_f hx.2 hx.1]
    simp only [Option.bind_some]
    rw [wrap_in, wrap64_of' (n := (j : Int) + 1) (by omega) (by omega), cast_succ, hk, List.drop_eq_getElem_cons hlt, wlW]
theorem weight_l0 (L : List (List Int)) (hin : L.all (fun l => l.all inR) = true) (hll : L.length ≤ 9000000000000) (hrl : ∀ l ∈ L, l.length ≤ 9223372036854775807) : ∀ (m i : Nat) (w : Int), i + m = L.length → ∃ k, enumerate_Weight.l0 k w L (L.length : Int) (i : Int) = some (wtW w (L.drop i))
  | 0, i, w, hi => ⟨1, by
    unfold enumerate_Weight.l0
    rw [if_neg (by omega), List.drop_eq_nil_of_le (by omega)]
    rfl⟩
  | m + 1, i, w, hi => by
    have hlt : i < L.length := by omega
    have hm := List.getElem_mem hlt
    obtain ⟨k, hk⟩ := weight_l1 L (L.length : Int) (i : Int) L[i] 0 (fun w => wtW w (L.drop (i + 1))) (fun w => by
      obtain ⟨k0, hk0⟩ := weight_l0 L hin hll hrl m (i + 1) w (by omega)
      exact ⟨k0, by rw [wrap64_of' (by omega) (by omega), cast_succ]; exact hk0⟩) (List.all_eq_true.1 hin _ hm) (hrl _ hm) L[i].length 0 w (by omega)
    refine ⟨k + 1, ?_⟩
    unfold enumerate_Weight.l0
    rw [if_pos (by omega), if_pos (by omega), if_pos (by omega), rdL_at hlt, show (0 : Int) = ((0 : Nat) : Int) from rfl, hk, List.drop_eq_getElem_cons hlt, List.drop_zero, wtW]
theorem weight_f (l0 : List (List Int)) (l1 l2 : List Int) (h : l0.length ≤ 5864062014634) (hin : (l0 ++ [l1, l2]).all (fun l => l.all inR) = true) (hrl : ∀ l ∈ l0 ++ [l1, l2], l.length ≤ 9223372036854775807) : ∃ k, enumerate_Weight.f k l0 l1 l2 = some (wtW 0 (l0 ++ [l1, l2])) := by
  obtain ⟨k2, h2⟩ := weight_l0 (l0 ++ [l1, l2]) hin (by simp; omega) hrl (l0 ++ [l1, l2]).length 0 0 (by omega)
  refine ⟨k2, ?_⟩
  unfold enumerate_Weight.f
  rw [lists_f l0 l1 l2 h]
  exact h2
end Go.Proofs.Ytgcdeablfoomhaa.PAll
end
section
set_option linter.unusedVariables false
set_option linter.unusedSimpArgs false
namespace Go.Proofs.Ytgcdeablfoomhaa.PAll
open Go.RowKit Go.Proofs.YtgcdeablfoomhaaW.PrintWords Go.Proofs.YtgcdeablfoomhaaW.PrintLast Go.Proofs.YtgcdeablfoomhaaW.PrintMore
/-- A state that is read: its three slices. -/
structure SR (w : World) (A0 : Option Addr) (c0 : Nat) (l0 : List (List Int)) (A1 : Option Addr) (c1 : Nat) (l1 : List Int) (A2 : Option Addr) (c2 : Nat) (l2 : List Int) : Prop where
  r0 : Kd.C (Kd.slice 3 (Kd.int .i64)) w A0 l0.length l0
  h0 : l0.length ≤ c0
  r1 : Kd.C (Kd.int .i64) w A1 l1.length l1
  h1 : l1.length ≤ c1
  r2 : Kd.C (Kd.int .i64) w A2 l2.length l2
  h2 : l2.length ≤ c2
section
variable {w w' : World} {A0 A1 A2 : Option Addr} {c0 c1 c2 : Nat} {l0 : List (List Int)} {l1 l2 : List Int}
theorem SR.below (h : SR w A0 c0 l0 A1 c1 l1 A2 c2 l2) (hb : Below w.heap.size w w') : SR w' A0 c0 l0 A1 c1 l1 A2 c2 l2 := ⟨Kd.C_below h.r0 hb, h.h0, Kd.C_below h.r1 hb, h.h1, Kd.C_below h.r2 hb, h.h2⟩
theorem C_lens {A : Option Addr} {L : List (List Int)} (h : Kd.C (Kd.slice 3 (Kd.int .i64)) w A L.length L) : ∀ l ∈ L, l.length ≤ 9223372036854775807 := by
  intro l hl
  obtain ⟨j, hj, rfl⟩ := List.mem_iff_getElem.1 hl
  obtain ⟨ad, e, hc⟩ := h.2.2 (by omega)
  obtain ⟨c, hs, ⟨A', c', _, _, hk⟩, _⟩ := hc j _ (List.getElem?_eq_getElem hj)
  exact hk.2.1
theorem SR.lens (h : SR w A0 c0 l0 A1 c1 l1 A2 c2 l2) : ∀ l ∈ l0 ++ [l1, l2], l.length ≤ 9223372036854775807 := by
  intro l hl
  rcases List.mem_append.1 hl with hl | hl
  · exact C_lens h.r0 l hl
  · simp at hl
    rcases hl with rfl | rfl
    · exact h.r1.2.1
    · exact h.r2.2.1
theorem fits_calls (h : SR w A0 c0 l0 A1 c1 l1 A2 c2 l2) (hl : l0.length ≤ 5864062014634) : Calls Try.prog 19 #[.agg #[.slice A0 l0.length c0, .slice A1 l1.length c1, .slice A2 l2.length c2]] w fun e w' => e = .returned (.bool (fitsL (l0 ++ [l1, l2]))) ∧ Below w.heap.size w w' := by
  obtain ⟨k, hk⟩ := fits_f l0 l1 l2 hl h.lens
  exact backstepref12_Fits.calls k A0 c0 l0 A1 c1 l1 A2 c2 l2 _ w h.r0 h.h0 h.r1 h.h1 h.r2 h.h2 hk
end
end Go.Proofs.Ytgcdeablfoomhaa.PAll
end
section
namespace Go.Proofs.Ytgcdeablfoomhaa.PAll
open Go.RowKit Go.Proofs.YtgcdeablfoomhaaW.PrintWords Go.Proofs.YtgcdeablfoomhaaW.PrintLast Go.Proofs.YtgcdeablfoomhaaW.PrintMore
attribute [local go_sem] max2_int min2_int max_two min_two max_three min_three max_four min_four   -- for this text's walks alone
set_option linter.unusedVariables false
set_option linter.unusedSimpArgs false
def slices_Equal_int_int.l0 : Nat → List Int → List Int → Int → Int → Option (Bool)
  | 0, _, _, _, _ => none
  | k + 1, x0, x1, x12, x13 => if x13 < x12 then (if 0 ≤ x13 then (if x13 < (x0.length : Int) then (if x13 < (x1.length : Int) then (if (rd x0 x13) = (rd x1 x13) then (slices_Equal_int_int.l0 k x0 x1 x12 (wrap64 (x13 + 1))) else (some false)) else (none)) else (none)) else (none)) else (some true)
def slices_Equal_int_int.f (k : Nat) (l0 : List Int) (l1 : List Int) : Option (Bool) := if (l0.length : Int) = (l1.length : Int) then (slices_Equal_int_int.l0 k l0 l1 (l0.length : Int) 0) else (some false)
set_option maxHeartbeats 8000000 in
set_option maxRecDepth 100000 in
theorem slices_Equal_int_int.calls (k : Nat) (A0 : Option Addr) (c0 : Nat) (l0 : List Int) (A1 : Option Addr) (c1 : Nat) (l1 : List Int) (r : Bool) (w : World) (hr0 : Kd.C (Kd.int .i64) w A0 l0.length l0) (hc0 : l0.length ≤ c0) (hr1 : Kd.C (Kd.int .i64) w A1 l1.length l1) (hc1 : l1.length ≤ c1) (h : slices_Equal_int_int.f k l0 l1 = some r) :
    Calls Try.prog 38 #[.slice A0 l0.length c0, .slice A1 l1.length c1] w fun e w' => e = .returned (.bool r) ∧ Drawn0 w w' := by
  have HR0 := Aside0.mk hr0
  have HC0 := Aside0.mk hc0
  clear hr0 hc0
  have HR1 := Aside0.mk hr1
  have HC1 := Aside0.mk hc1
  clear hr1 hc1
  have H : (if (l0.length : Int) = (l1.length : Int) then (slices_Equal_int_int.l0 k l0 l1 (l0.length : Int) 0) else (some false)) = some r := h
  clear h
  by_cases c3 : (l0.length : Int) = (l1.length : Int)
  · rw [if_pos c3] at H
    have c3b0 : ((l0.length : Int) == (l1.length : Int)) = true := beq_iff_eq.mpr c3
    have c3b1 : ((l0.length : Int) != (l1.length : Int)) = false := bne_eq_false_iff_eq.mpr c3
    have c3b2 : (l0.length == l1.length) = true := by first | simpa using c3 | (simp at c3 ⊢; omega)
    clear c3
    have H' := Aside0.mk H
    clear H
    go_enter Try.func38, Try.ntmps38
    go_wp2
    repeat (go_quiet (fail); try go_wp2)
    go_loopg [13] k (fun kq v13 w' => ∃ (x13_1 : Int), v13 = .int .i64 x13_1 ∧ Aside0 (slices_Equal_int_int.l0 kq l0 l1 (l0.length : Int) x13_1 = some r) ∧ Aside0 (kq ≤ k) ∧ Drawn0 w w')
    case atStart => exact ⟨(0), (by first | rfl | (simp; done) | (simp [*]; done)), H', ⟨Nat.le_refl _⟩, by repeat (first | exact Drawn0.refl _ | apply Drawn0.step)⟩
    case round =>
      clear H'
      try clear c1
      try clear p2
      try clear c3
      try clear c3b0
      try clear c3b1
      try clear c3b2
      obtain ⟨x13_1, rfl, HA, HK1, ⟨m1, rfl⟩⟩ := hrel
      cases gk with
      | zero => exact absurd HA.out (by simp [slices_Equal_int_int.l0])
      | succ k1 =>
        have H := HA.out
        clear HA
        simp only [slices_Equal_int_int.l0] at H
        by_cases c4 : x13_1 < (l0.length : Int)
        · rw [if_pos c4] at H
          have c4b0 : decide (x13_1 < (l0.length : Int)) = true := decide_eq_true c4
          clear c4
          by_cases c5 : 0 ≤ x13_1
          · rw [if_pos c5] at H
            have c5b0 : decide (0 ≤ x13_1) = true := decide_eq_true c5
            clear c5
            by_cases c6 : x13_1 < (l0.length : Int)
            · rw [if_pos c6] at H
              have c6b0 : decide (x13_1 < (l0.length : Int)) = true := decide_eq_true c6
              clear c6
              by_cases c7 : x13_1 < (l1.length : Int)
              · rw [if_pos c7] at H
                have c7b0 : decide (x13_1 < (l1.length : Int)) = true := decide_eq_true c7
                clear c7
                by_cases c8 : (rd l0 x13_1) = (rd l1 x13_1)
                · rw [if_pos c8] at H
                  have c8b0 : ((rd l0 x13_1) == (rd l1 x13_1)) = true := beq_iff_eq.mpr c8
                  have c8b1 : ((rd l0 x13_1) != (rd l1 x13_1)) = false := bne_eq_false_iff_eq.mpr c8
                  clear c8
                  have H' := Aside0.mk H
                  clear H
                  have p225 : 0 ≤ (x13_1 : Int) := of_decide_eq_true (by first | (with_reducible assumption) | assumption)
                  have q225 : x13_1 < (l0.length : Int) := of_decide_eq_true (by first | (with_reducible assumption) | assumption)
                  obtain ⟨ad225, e225, hx225_0⟩ := Kd.at_int HR0.out x13_1 p225 q225
                  cases e225
                  replace p225 := eq_true p225
                  replace q225 := eq_true q225
                  have p226 : 0 ≤ (x13_1 : Int) := of_decide_eq_true (by first | (with_reducible assumption) | assumption)
                  have q226 : x13_1 < (l1.length : Int) := of_decide_eq_true (by first | (with_reducible assumption) | assumption)
                  obtain ⟨ad226, e226, hx226_0⟩ := Kd.at_int HR1.out x13_1 p226 q226
                  cases e226
                  replace p226 := eq_true p226
                  replace q226 := eq_true q226
                  go_wp2
                  repeat (go_quiet (fail); try go_wp2)
                  go_roundg k1
                  case measure => have := HK1.out; omega
                  case rel => exact ⟨(wrap64 (x13_1 + 1)), (by first | rfl | (simp; done) | (simp [*]; done)), H', ⟨by have := HK1.out; omega⟩, by repeat (first | exact Drawn0.refl _ | apply Drawn0.step)⟩
                · rw [if_neg c8] at H
                  have c8b0 : ((rd l0 x13_1) == (rd l1 x13_1)) = false := beq_eq_false_iff_ne.mpr c8
                  have c8b1 : ((rd l0 x13_1) != (rd l1 x13_1)) = true := bne_iff_ne.mpr c8
                  obtain rfl := Option.some.inj H
                  have p225 : 0 ≤ (x13_1 : Int) := of_decide_eq_true (by first | (with_reducible assumption) | assumption)
                  have q225 : x13_1 < (l0.length : Int) := of_decide_eq_true (by first | (with_reducible assumption) | assumption)
                  obtain ⟨ad225, e225, hx225_0⟩ := Kd.at_int HR0.out x13_1 p225 q225
                  cases e225
                  replace p225 := eq_true p225
                  replace q225 := eq_true q225
                  have p226 : 0 ≤ (x13_1 : Int) := of_decide_eq_true (by first | (with_reducible assumption) | assumption)
                  have q226 : x13_1 < (l1.length : Int) := of_decide_eq_true (by first | (with_reducible assumption) | assumption)
                  obtain ⟨ad226, e226, hx226_0⟩ := Kd.at_int HR1.out x13_1 p226 q226
                  cases e226
                  replace p226 := eq_true p226
                  replace q226 := eq_true q226
                  go_wp2
                  repeat (go_quiet (fail); try go_wp2)
                  go_ret
                  exact ⟨by first | rfl | (simp; done) | (simp [*]; done), by repeat (first | exact Drawn0.refl _ | apply Drawn0.step)⟩
              · rw [if_neg c7] at H
                exact absurd H (by simp)
            · rw [if_neg c6] at H
              exact absurd H (by simp)
          · rw [if_neg c5] at H
            exact absurd H (by simp)
        · rw [if_neg c4] at H
          have c4b0 : decide (x13_1 < (l0.length : Int)) = false := decide_eq_false c4
          clear c4
          obtain rfl := Option.some.inj H
          go_wp2
          repeat (go_quiet (fail); try go_wp2)
          go_ret
          exact ⟨by first | rfl | (simp; done) | (simp [*]; done), by repeat (first | exact Drawn0.refl _ | apply Drawn0.step)⟩
  · rw [if_neg c3] at H
    have c3b0 : ((l0.length : Int) == (l1.length : Int)) = false := beq_eq_false_iff_ne.mpr c3
    have c3b1 : ((l0.length : Int) != (l1.length : Int)) = true := bne_iff_ne.mpr c3
    have c3b2 : (l0.length == l1.length) = false := by first | simpa using c3 | (simp at c3 ⊢; omega)
    obtain rfl := Option.some.inj H
    go_enter Try.func38, Try.ntmps38
    go_wp2
    repeat (go_quiet (fail); try go_wp2)
    go_ret
    exact ⟨by first | rfl | (simp; done) | (simp [*]; done), by repeat (first | exact Drawn0.refl _ | apply Drawn0.step)⟩
end Go.Proofs.Ytgcdeablfoomhaa.PAll
end
section
set_option linter.unusedVariables false
set_option linter.unusedSimpArgs false
namespace Go.Proofs.Ytgcdeablfoomhaa.PAll
open Go.RowKit Go.Proofs.YtgcdeablfoomhaaW.PrintWords Go.Proofs.YtgcdeablfoomhaaW.PrintLast Go.Proofs.YtgcdeablfoomhaaW.PrintMore
theorem eqs_l0 (a b : List Int) (hl : a.length = b.length) (hm : a.length ≤ 9223372036854775807) : ∀ (m j : Nat), j + m = a.length → ∃ k, slices_Equal_int_int.l0 k a b (a.length : Int) (j : Int) = some (decide (a.drop j = b.drop j))
  | 0, j, hj => ⟨1, by
    unfold slices_Equal_int_int.l0
    rw [if_neg (by omega), List.drop_eq_nil_of_le (by omega), List.drop_eq_nil_of_le (by omega)]
    rfl⟩
  | m + 1, j, hj => by
    have h1 : j < a.length := by omega
    have h2 : j < b.length := by omega
    obtain ⟨k, hk⟩ := eqs_l0 a b hl hm m (j + 1) (by omega)
    refine ⟨k + 1, ?_⟩
    unfold slices_Equal_int_int.l0
    rw [if_pos (by omega), if_pos (by omega), if_pos (by omega), if_pos (by omega), rd_at h1, rd_at h2, List.drop_eq_getElem_cons h1, List.drop_eq_getElem_cons h2]
    by_cases e : a[j] = b[j]
    · rw [if_pos e, wrap64_of' (by omega) (by omega), cast_succ, hk, e]
      congr 1
      exact decide_eq_decide.2 (by simp only [List.cons.injEq, true_and])
    · rw [if_neg e]
      congr 1
      exact (decide_eq_false (fun h => e (List.cons.inj h).1)).symm
theorem eqs_f (a b : List Int) (hm : a.length ≤ 9223372036854775807) : ∃ k, slices_Equal_int_int.f k a b = some (decide (a = b)) := by
  unfold slices_Equal_int_int.f
  by_cases e : a.length = b.length
  · obtain ⟨k, hk⟩ := eqs_l0 a b e hm a.length 0 (by omega)
    refine ⟨k, ?_⟩
    rw [if_pos (by omega)]
    simpa using hk
  · refine ⟨0, ?_⟩
    rw [if_neg (by omega), decide_eq_false (fun h => e (by rw [h]))]
theorem eqs_calls {A0 : Option Addr} {c0 : Nat} {l0 : List Int} {A1 : Option Addr} {c1 : Nat} {l1 : List Int} {w : World} (h0 : Kd.C (Kd.int .i64) w A0 l0.length l0) (hc0 : l0.length ≤ c0) (h1 : Kd.C (Kd.int .i64) w A1 l1.length l1) (hc1 : l1.length ≤ c1) :
    Calls Try.prog 38 #[.slice A0 l0.length c0, .slice A1 l1.length c1] w fun e w' => e = .returned (.bool (decide (l0 = l1))) ∧ Below w.heap.size w w' := by
  obtain ⟨k, hk⟩ := eqs_f l0 l1 h0.2.1
  exact (slices_Equal_int_int.calls k A0 c0 l0 A1 c1 l1 _ w h0 hc0 h1 hc1 hk).mono fun e w' ⟨he, hb⟩ => ⟨he, drawn_below hb⟩
theorem drop_ne {L M : List (List Int)} {i : Nat} (h1 : i < L.length) (h2 : i < M.length) (h : L[i] ≠ M[i]) : decide (L = M) = false := decide_eq_false (fun e => h (by subst e; rfl))
set_option maxRecDepth 100000 in
set_option maxHeartbeats 2000000 in
theorem equalFunc_calls (A0 : Option Addr) (c0 : Nat) (L : List (List Int)) (A1 : Option Addr) (c1 : Nat) (M : List (List Int)) (w : World) (h0 : Kd.C (Kd.slice 3 (Kd.int .i64)) w A0 L.length L) (hc0 : L.length ≤ c0) (h1 : Kd.C (Kd.slice 3 (Kd.int .i64)) w A1 M.length M) (hc1 : M.length ≤ c1) (hll : L.length ≤ 9000000000000) :
    Calls Try.prog 37 #[.slice A0 L.length c0, .slice A1 M.length c1, .func (.func 38) #[] #[]] w fun e w' => e = .returned (.bool (decide (L = M))) ∧ Below w.heap.size w w' := by
  have H0 := Lib.hid h0
  have H1 := Lib.hid h1
  clear h0 h1
  by_cases hl : L.length = M.length
  · have hne : ((L.length : Int) != (M.length : Int)) = false := by simp [hl]
    have HNE := Lib.hid hl
    obtain ⟨n, hn⟩ : ∃ n, n = M.length := ⟨_, rfl⟩
    rw [← hn] at hl hne hc1 H1 ⊢
    have HN := Lib.hid hn
    rw [hl] at hne hc0 hll H0 ⊢
    have HL := Lib.hid hl
    clear hl hn hne
    have hne : ((n : Int) != (n : Int)) = false := by simp
    go_enter Try.func37, Try.ntmps37
    go_wp2
    go_loopw [17] (fun i wr => ∃ k : Nat, k ≤ n ∧ i = .int .i64 k ∧ Aside0 (L.take k = M.take k) ∧ Aside0 (Below w.heap.size w wr)) (fun i _ => n - (intOf i).toNat)
    case atStart => exact ⟨0, Nat.zero_le _, rfl, ⟨rfl⟩, ⟨Below.refl _ _⟩⟩
    case round =>
      obtain ⟨k, hk, rfl, HT, HB⟩ := hrel
      by_cases hlt : k < n
      · have d1 : decide (k < n) = true := decide_eq_true hlt
        have k1 : k < L.length := by rw [HL.out]; exact hlt
        have k2 : k < M.length := by rw [← HN.out]; exact hlt
        obtain ⟨ad0, B0, b0, hA0, hx0, hb0, hr0⟩ := at_L4 (Kd.C_below H0.out HB.out) (k : Int) (by omega) (by omega)
        obtain ⟨ad1, B1, b1, hA1, hx1, hb1, hr1⟩ := at_L4 (Kd.C_below H1.out HB.out) (k : Int) (by omega) (by omega)
        subst hA0 hA1
        obtain ⟨r0, hr0e⟩ : ∃ r, r = rd_L4 L (k : Int) := ⟨_, rfl⟩
        obtain ⟨r1, hr1e⟩ : ∃ r, r = rd_L4 M (k : Int) := ⟨_, rfl⟩
        rw [← hr0e] at hx0 hb0 hr0
        rw [← hr1e] at hx1 hb1 hr1
        have q0 : r0 = L[k] := by rw [hr0e, rdL_at k1]
        have q1 : r1 = M[k] := by rw [hr1e, rdL_at k2]
        simp only [Int.toNat_natCast] at hx0 hx1
        have HC0 := Lib.hid hr0
        have HC1 := Lib.hid hr1
        have p1 : (0 ≤ (k : Int)) = True := eq_true (by omega)
        have p2 : ((k : Int) < (n : Int)) = True := eq_true (by omega)
        have Q0 := Lib.hid q0
        have Q1 := Lib.hid q1
        have K1 := Lib.hid k1
        have K2 := Lib.hid k2
        clear hr0e hr1e hr0 hr1 q0 q1
        go_wp2_with (fail)
        refine (eqs_calls HC0.out hb0 HC1.out hb1).mono ?_
        rintro e w1 ⟨rfl, hb⟩
        have HB1 := Lib.hid (HB.out.trans (hb.mono HB.out.size))
        clear hb HB hx0 hx1 HC0 HC1
        by_cases he : r0 = r1
        · have d2 : decide (r0 = r1) = true := decide_eq_true he
          rw [d2]
          have ht : L.take (k + 1) = M.take (k + 1) := by rw [List.take_succ_eq_append_getElem K1.out, List.take_succ_eq_append_getElem K2.out, HT.out, ← Q0.out, ← Q1.out, he]
          have HT1 := Lib.hid ht
          clear d2 he ht HT
          go_wp2
          go_roundw
          case rel => exact ⟨k + 1, by omega, by go_num, ⟨HT1.out⟩, ⟨HB1.out⟩⟩
          case measure => simp [intOf]; omega
        · have d2 : decide (r0 = r1) = false := decide_eq_false he
          rw [d2]
          have hf : decide (L = M) = false := drop_ne K1.out K2.out (by rw [← Q0.out, ← Q1.out]; exact he)
          have HF := Lib.hid hf
          clear d2 he hf
          go_wp2
          go_ret
          exact ⟨by rw [HF.out]; rfl, HB1.out⟩
      · have d1 : decide (k < n) = false := decide_eq_false hlt
        have hf : decide (L = M) = true := decide_eq_true (by
          have h9 := HT.out
          rwa [List.take_of_length_le (by have := HL.out; omega), List.take_of_length_le (by have := HN.out; omega)] at h9)
        have HF := Lib.hid hf
        clear hf
        go_wp2
        go_ret
        exact ⟨by rw [HF.out]; rfl, HB.out⟩
  · have hne : ((L.length : Int) != (M.length : Int)) = true := by simp; omega
    have hf : decide (L = M) = false := decide_eq_false (fun h => hl (by rw [h]))
    have HF := Lib.hid hf
    clear hf hl
    go_enter Try.func37, Try.ntmps37
    go_wp2
    go_ret
    exact ⟨by rw [HF.out]; rfl, Below.refl _ _⟩
def eqS (l0 : List (List Int)) (l1 l2 : List Int) (m0 : List (List Int)) (m1 m2 : List Int) : Bool := decide (l0 = m0) && decide (l1 = m1) && decide (l2 = m2)
set_option maxRecDepth 100000 in
set_option maxHeartbeats 2000000 in
theorem equal_calls {w : World} {A0 A1 A2 : Option Addr} {c0 c1 c2 : Nat} {l0 : List (List Int)} {l1 l2 : List Int} {A0' A1' A2' : Option Addr} {c0' c1' c2' : Nat} {m0 : List (List Int)} {m1 m2 : List Int}
    (h : SR w A0 c0 l0 A1 c1 l1 A2 c2 l2) (h' : SR w A0' c0' m0 A1' c1' m1 A2' c2' m2) (hl : l0.length ≤ 5864062014634) :
    Calls Try.prog 23 #[.agg #[.slice A0 l0.length c0, .slice A1 l1.length c1, .slice A2 l2.length c2], .agg #[.slice A0' m0.length c0', .slice A1' m1.length c1', .slice A2' m2.length c2']] w fun e w' => e = .returned (.bool (eqS l0 l1 l2 m0 m1 m2)) ∧ Below w.heap.size w w' := by
  have H := Lib.hid h
  have H' := Lib.hid h'
  clear h h'
  obtain ⟨B1, hB1⟩ : ∃ b, b = w.heap.size := ⟨_, rfl⟩
  obtain ⟨B2, hB2⟩ : ∃ b, b = w.heap.size + 1 := ⟨_, rfl⟩
  go_enter Try.func23, Try.ntmps23
  go_wp2_with (fail)
  obtain ⟨w1, hw1⟩ : ∃ w1, w1 = (w.alloc (.cells #[.slice A0 l0.length c0, .slice A1 l1.length c1, .slice A2 l2.length c2] 35)).alloc (.cells #[.slice A0' m0.length c0', .slice A1' m1.length c1', .slice A2' m2.length c2'] 35) := ⟨_, rfl⟩
  have hbx : BoxA w1 B1 (.slice A0 l0.length c0) (.slice A1 l1.length c1) (.slice A2 l2.length c2) := by rw [hw1, hB1]; exact (BoxA.new _ _ _ _).alloc _
  have hbx' : BoxA w1 B2 (.slice A0' m0.length c0') (.slice A1' m1.length c1') (.slice A2' m2.length c2') := by
    rw [hw1, hB2]
    have h9 := BoxA.new (w.alloc (.cells #[.slice A0 l0.length c0, .slice A1 l1.length c1, .slice A2 l2.length c2] 35)) (.slice A0' m0.length c0') (.slice A1' m1.length c1') (.slice A2' m2.length c2')
    rwa [World.size_alloc] at h9
  have hb1 : Below w.heap.size w w1 := by rw [hw1]; exact ((Below.refl _ w).alloc (Nat.le_refl _) _).alloc (by simp) _
  rw [← hw1, ← hB2, ← hB1]
  have HB1 := Lib.hid hb1
  have HX := Lib.hid hbx
  have HX' := Lib.hid hbx'
  clear hw1 hB1 hB2 hbx hbx' hb1
  refine (equalFunc_calls _ _ _ _ _ _ _ (H.out.below HB1.out).r0 H.out.h0 (H'.out.below HB1.out).r0 H'.out.h0 (by omega)).mono ?_
  rintro e w2 ⟨rfl, hb⟩
  have HB2 := Lib.hid (HB1.out.trans (hb.mono HB1.out.size))
  have hx := HX.out.below hb HX.out.lt
  have hx' := HX'.out.below hb HX'.out.lt
  have a1 := hx.c1
  have a1' := hx'.c1
  have HX2 := Lib.hid hx
  have HX2' := Lib.hid hx'
  clear hb hx hx' HX HX' HB1
  by_cases e0 : l0 = m0
  · have d0 : decide (l0 = m0) = true := decide_eq_true e0
    rw [d0]
    have E0 := Lib.hid d0
    clear d0 e0
    go_wp2_with (fail)
    refine (eqs_calls (H.out.below HB2.out).r1 H.out.h1 (H'.out.below HB2.out).r1 H'.out.h1).mono ?_
    rintro e w3 ⟨rfl, hb⟩
    have HB3 := Lib.hid (HB2.out.trans (hb.mono HB2.out.size))
    have a2 := (HX2.out.below hb HX2.out.lt).c2
    have a2' := (HX2'.out.below hb HX2'.out.lt).c2
    clear hb HB2 a1 a1'
    by_cases e1 : l1 = m1
    · have d1 : decide (l1 = m1) = true := decide_eq_true e1
      rw [d1]
      have E1 := Lib.hid d1
      clear d1 e1
      go_wp2_with (fail)
      refine (eqs_calls (H.out.below HB3.out).r2 H.out.h2 (H'.out.below HB3.out).r2 H'.out.h2).mono ?_
      rintro e w4 ⟨rfl, hb⟩
      have HB4 := Lib.hid (HB3.out.trans (hb.mono HB3.out.size))
      clear hb
      obtain ⟨bb, hbb⟩ : ∃ bb, bb = decide (l2 = m2) := ⟨_, rfl⟩
      rw [← hbb]
      have HBB := Lib.hid hbb
      clear hbb
      go_wp2
      go_ret
      exact ⟨by unfold eqS; rw [E0.out, E1.out, ← HBB.out]; rfl, HB4.out⟩
    · have d1 : decide (l1 = m1) = false := decide_eq_false e1
      rw [d1]
      have E1 := Lib.hid d1
      clear d1 e1
      go_wp2
      go_ret
      exact ⟨by unfold eqS; rw [E0.out, E1.out]; rfl, HB3.out⟩
  · have d0 : decide (l0 = m0) = false := decide_eq_false e0
    rw [d0]
    have E0 := Lib.hid d0
    clear d0 e0
    go_wp2
    go_ret
    exact ⟨by unfold eqS; rw [E0.out]; rfl, HB2.out⟩
end Go.Proofs.Ytgcdeablfoomhaa.PAll
end
section
namespace Go.Proofs.Ytgcdeablfoomhaa.PAll
open Go.RowKit Go.Proofs.YtgcdeablfoomhaaW.PrintWords Go.Proofs.YtgcdeablfoomhaaW.PrintLast Go.Proofs.YtgcdeablfoomhaaW.PrintMore
attribute [local go_sem] max2_int min2_int max_two min_two max_three min_three max_four min_four   -- for this text's walks alone
set_option linter.unusedVariables false
set_option linter.unusedSimpArgs false
def enumerate_compare.l0 : Nat → List Int → List Int → Int → Int → Option (Int)
  | 0, _, _, _, _ => none
  | k + 1, x0, x1, x17, x18 => if x18 < x17 then (if 0 ≤ x18 then (if x18 < (x0.length : Int) then (if x18 < (x1.length : Int) then (if (rd x0 x18) = (rd x1 x18) then (enumerate_compare.l0 k x0 x1 x17 (wrap64 (x18 + 1))) else ((enumerate_Rank.f (rd x0 x18)).bind fun t207 => ((enumerate_Rank.f (rd x1 x18)).bind fun t209 => (some (wrap64 (t207 - t209)))))) else (none)) else (none)) else (none)) else (some 0)
def enumerate_compare.f (k : Nat) (l0 : List Int) (l1 : List Int) : Option (Int) := if (l0.length : Int) = (l1.length : Int) then (enumerate_compare.l0 k l0 l1 (l0.length : Int) 0) else (some (wrap64 ((l0.length : Int) - (l1.length : Int))))
theorem enumerate_compare.mono_l : ∀ k, (∀ y0 y1 y2 y3, LeO (enumerate_compare.l0 k y0 y1 y2 y3) (enumerate_compare.l0 (k + 1) y0 y1 y2 y3))
  | 0 => fun _ _ _ _ r h => by simp [enumerate_compare.l0] at h
  | k + 1 => by
    have ih0 := enumerate_compare.mono_l k
    · intro y0 y1 y2 y3
      unfold enumerate_compare.l0
      repeat' first
      | (with_reducible exact ih0 _ _ _ _)
      | (with_reducible exact LeO.refl _)
      | (with_reducible exact LeO.none _)
      | (with_reducible refine LeO.ite ?_ ?_)
      | (with_reducible refine LeO.bind ?_ (fun _ => ?_))
      | exact ih0 _ _ _ _
      | exact LeO.none _
      | refine LeO.ite ?_ ?_
      | refine LeO.bind ?_ (fun _ => ?_)
theorem enumerate_compare.mono : ∀ a0 a1 k, LeO (enumerate_compare.f k a0 a1) (enumerate_compare.f (k + 1) a0 a1) := by
  intro a0 a1 k
  have ih0 := enumerate_compare.mono_l k
  unfold enumerate_compare.f
  repeat' first
      | (with_reducible exact ih0 _ _ _ _)
      | (with_reducible exact LeO.refl _)
      | (with_reducible exact LeO.none _)
      | (with_reducible refine LeO.ite ?_ ?_)
      | (with_reducible refine LeO.bind ?_ (fun _ => ?_))
      | exact ih0 _ _ _ _
      | exact LeO.none _
      | refine LeO.ite ?_ ?_
      | refine LeO.bind ?_ (fun _ => ?_)
set_option maxHeartbeats 8000000 in
set_option maxRecDepth 100000 in
theorem enumerate_compare.calls (k : Nat) (A0 : Option Addr) (c0 : Nat) (l0 : List Int) (A1 : Option Addr) (c1 : Nat) (l1 : List Int) (r : Int) (w : World) (hr0 : Kd.C (Kd.int .i64) w A0 l0.length l0) (hc0 : l0.length ≤ c0) (hr1 : Kd.C (Kd.int .i64) w A1 l1.length l1) (hc1 : l1.length ≤ c1) (h : enumerate_compare.f k l0 l1 = some r) :
    Calls Try.prog 39 #[.slice A0 l0.length c0, .slice A1 l1.length c1] w fun e w' => e = .returned (.int .i64 r) ∧ Drawn0 w w' := by
  have HR0 := Aside0.mk hr0
  have HC0 := Aside0.mk hc0
  clear hr0 hc0
  have HR1 := Aside0.mk hr1
  have HC1 := Aside0.mk hc1
  clear hr1 hc1
  have H : (if (l0.length : Int) = (l1.length : Int) then (enumerate_compare.l0 k l0 l1 (l0.length : Int) 0) else (some (wrap64 ((l0.length : Int) - (l1.length : Int))))) = some r := h
  clear h
  by_cases c3 : (l0.length : Int) = (l1.length : Int)
  · rw [if_pos c3] at H
    have c3b0 : ((l0.length : Int) == (l1.length : Int)) = true := beq_iff_eq.mpr c3
    have c3b1 : ((l0.length : Int) != (l1.length : Int)) = false := bne_eq_false_iff_eq.mpr c3
    have c3b2 : (l0.length == l1.length) = true := by first | simpa using c3 | (simp at c3 ⊢; omega)
    clear c3
    have H' := Aside0.mk H
    clear H
    go_enter Try.func39, Try.ntmps39
    go_wp2
    repeat (go_quiet (fail); try go_wp2)
    go_loopg [18] k (fun kq v18 w' => ∃ (x18_1 : Int), v18 = .int .i64 x18_1 ∧ Aside0 (enumerate_compare.l0 kq l0 l1 (l0.length : Int) x18_1 = some r) ∧ Aside0 (kq ≤ k) ∧ Drawn0 w w')
    case atStart => exact ⟨(0), (by first | rfl | (simp; done) | (simp [*]; done)), H', ⟨Nat.le_refl _⟩, by repeat (first | exact Drawn0.refl _ | apply Drawn0.step)⟩
    case round =>
      clear H'
      try clear c1
      try clear p2
      try clear c3
      try clear c3b0
      try clear c3b1
      try clear c3b2
      obtain ⟨x18_1, rfl, HA, HK1, ⟨m1, rfl⟩⟩ := hrel
      cases gk with
      | zero => exact absurd HA.out (by simp [enumerate_compare.l0])
      | succ k1 =>
        have H := HA.out
        clear HA
        simp only [enumerate_compare.l0] at H
        by_cases c4 : x18_1 < (l0.length : Int)
        · rw [if_pos c4] at H
          have c4b0 : decide (x18_1 < (l0.length : Int)) = true := decide_eq_true c4
          clear c4
          by_cases c5 : 0 ≤ x18_1
          · rw [if_pos c5] at H
            have c5b0 : decide (0 ≤ x18_1) = true := decide_eq_true c5
            clear c5
            by_cases c6 : x18_1 < (l0.length : Int)
            · rw [if_pos c6] at H
              have c6b0 : decide (x18_1 < (l0.length : Int)) = true := decide_eq_true c6
              clear c6
              by_cases c7 : x18_1 < (l1.length : Int)
              · rw [if_pos c7] at H
                have c7b0 : decide (x18_1 < (l1.length : Int)) = true := decide_eq_true c7
                clear c7
                by_cases c8 : (rd l0 x18_1) = (rd l1 x18_1)
                · rw [if_pos c8] at H
                  have c8b0 : ((rd l0 x18_1) == (rd l1 x18_1)) = true := beq_iff_eq.mpr c8
                  have c8b1 : ((rd l0 x18_1) != (rd l1 x18_1)) = false := bne_eq_false_iff_eq.mpr c8
                  clear c8
                  have H' := Aside0.mk H
                  clear H
                  have p204 : 0 ≤ (x18_1 : Int) := of_decide_eq_true (by first | (with_reducible assumption) | assumption)
                  have q204 : x18_1 < (l0.length : Int) := of_decide_eq_true (by first | (with_reducible assumption) | assumption)
                  obtain ⟨ad204, e204, hx204_0⟩ := Kd.at_int HR0.out x18_1 p204 q204
                  cases e204
                  replace p204 := eq_true p204
                  replace q204 := eq_true q204
                  have p205 : 0 ≤ (x18_1 : Int) := of_decide_eq_true (by first | (with_reducible assumption) | assumption)
                  have q205 : x18_1 < (l1.length : Int) := of_decide_eq_true (by first | (with_reducible assumption) | assumption)
                  obtain ⟨ad205, e205, hx205_0⟩ := Kd.at_int HR1.out x18_1 p205 q205
                  cases e205
                  replace p205 := eq_true p205
                  replace q205 := eq_true q205
                  go_wp2
                  repeat (go_quiet (fail); try go_wp2)
                  go_roundg k1
                  case measure => have := HK1.out; omega
                  case rel => exact ⟨(wrap64 (x18_1 + 1)), (by first | rfl | (simp; done) | (simp [*]; done)), H', ⟨by have := HK1.out; omega⟩, by repeat (first | exact Drawn0.refl _ | apply Drawn0.step)⟩
                · rw [if_neg c8] at H
                  have c8b0 : ((rd l0 x18_1) == (rd l1 x18_1)) = false := beq_eq_false_iff_ne.mpr c8
                  have c8b1 : ((rd l0 x18_1) != (rd l1 x18_1)) = true := bne_iff_ne.mpr c8
                  replace H := Option.bind_eq_some_iff.mp H
                  obtain ⟨t207, A90, H⟩ := H
                  replace H : ((enumerate_Rank.f (rd l1 x18_1)).bind fun t209 => (some (wrap64 (t207 - t209)))) = some r := H
                  have A9 := Aside0.mk A90
                  clear A90
                  replace H := Option.bind_eq_some_iff.mp H
                  obtain ⟨t209, A100, H⟩ := H
                  replace H : (some (wrap64 (t207 - t209))) = some r := H
                  have A10 := Aside0.mk A100
                  clear A100
                  obtain rfl := Option.some.inj H
                  have p204 : 0 ≤ (x18_1 : Int) := of_decide_eq_true (by first | (with_reducible assumption) | assumption)
                  have q204 : x18_1 < (l0.length : Int) := of_decide_eq_true (by first | (with_reducible assumption) | assumption)
                  obtain ⟨ad204, e204, hx204_0⟩ := Kd.at_int HR0.out x18_1 p204 q204
                  cases e204
                  replace p204 := eq_true p204
                  replace q204 := eq_true q204
                  have p205 : 0 ≤ (x18_1 : Int) := of_decide_eq_true (by first | (with_reducible assumption) | assumption)
                  have q205 : x18_1 < (l1.length : Int) := of_decide_eq_true (by first | (with_reducible assumption) | assumption)
                  obtain ⟨ad205, e205, hx205_0⟩ := Kd.at_int HR1.out x18_1 p205 q205
                  cases e205
                  replace p205 := eq_true p205
                  replace q205 := eq_true q205
                  have p206 : 0 ≤ (x18_1 : Int) := of_decide_eq_true (by first | (with_reducible assumption) | assumption)
                  have q206 : x18_1 < (l0.length : Int) := of_decide_eq_true (by first | (with_reducible assumption) | assumption)
                  obtain ⟨ad206, e206, hx206_0⟩ := Kd.at_int HR0.out x18_1 p206 q206
                  obtain rfl : ad204 = ad206 := (by injection e206)
                  replace p206 := eq_true p206
                  replace q206 := eq_true q206
                  go_wp2_with (first | (go_at_call 16; (with_reducible refine (enumerate_Rank.calls (rd l0 x18_1) t207 _ A9.out).mono ?_); rintro e w' ⟨rfl, ⟨nd, rfl⟩⟩; (try first | exact ⟨rfl, _, World.drewN_drewN _ _ _⟩ | exact ⟨rfl, _, Eq.trans (World.drewN_drewN _ _ _) (congrArg (World.drewN _) (Nat.add_assoc _ _ _))⟩); have p208 : 0 ≤ (x18_1 : Int) := of_decide_eq_true (by first | (with_reducible assumption) | assumption); have q208 : x18_1 < (l1.length : Int) := of_decide_eq_true (by first | (with_reducible assumption) | assumption); obtain ⟨ad208, e208, hx208_0⟩ := Kd.at_int HR1.out x18_1 p208 q208; obtain rfl : ad205 = ad208 := (by injection e208); replace p208 := eq_true p208; replace q208 := eq_true q208) | (go_at_call 16; (with_reducible refine (enumerate_Rank.calls (rd l1 x18_1) t209 _ A10.out).mono ?_); rintro e w' ⟨rfl, ⟨nd, rfl⟩⟩; (try first | exact ⟨rfl, _, World.drewN_drewN _ _ _⟩ | exact ⟨rfl, _, Eq.trans (World.drewN_drewN _ _ _) (congrArg (World.drewN _) (Nat.add_assoc _ _ _))⟩)))
                  repeat (go_quiet (first | (go_at_call 16; (with_reducible refine (enumerate_Rank.calls (rd l0 x18_1) t207 _ A9.out).mono ?_); rintro e w' ⟨rfl, ⟨nd, rfl⟩⟩; (try first | exact ⟨rfl, _, World.drewN_drewN _ _ _⟩ | exact ⟨rfl, _, Eq.trans (World.drewN_drewN _ _ _) (congrArg (World.drewN _) (Nat.add_assoc _ _ _))⟩); have p208 : 0 ≤ (x18_1 : Int) := of_decide_eq_true (by first | (with_reducible assumption) | assumption); have q208 : x18_1 < (l1.length : Int) := of_decide_eq_true (by first | (with_reducible assumption) | assumption); obtain ⟨ad208, e208, hx208_0⟩ := Kd.at_int HR1.out x18_1 p208 q208; obtain rfl : ad205 = ad208 := (by injection e208); replace p208 := eq_true p208; replace q208 := eq_true q208) | (go_at_call 16; (with_reducible refine (enumerate_Rank.calls (rd l1 x18_1) t209 _ A10.out).mono ?_); rintro e w' ⟨rfl, ⟨nd, rfl⟩⟩; (try first | exact ⟨rfl, _, World.drewN_drewN _ _ _⟩ | exact ⟨rfl, _, Eq.trans (World.drewN_drewN _ _ _) (congrArg (World.drewN _) (Nat.add_assoc _ _ _))⟩))); try go_wp2_with (first | (go_at_call 16; (with_reducible refine (enumerate_Rank.calls (rd l0 x18_1) t207 _ A9.out).mono ?_); rintro e w' ⟨rfl, ⟨nd, rfl⟩⟩; (try first | exact ⟨rfl, _, World.drewN_drewN _ _ _⟩ | exact ⟨rfl, _, Eq.trans (World.drewN_drewN _ _ _) (congrArg (World.drewN _) (Nat.add_assoc _ _ _))⟩); have p208 : 0 ≤ (x18_1 : Int) := of_decide_eq_true (by first | (with_reducible assumption) | assumption); have q208 : x18_1 < (l1.length : Int) := of_decide_eq_true (by first | (with_reducible assumption) | assumption); obtain ⟨ad208, e208, hx208_0⟩ := Kd.at_int HR1.out x18_1 p208 q208; obtain rfl : ad205 = ad208 := (by injection e208); replace p208 := eq_true p208; replace q208 := eq_true q208) | (go_at_call 16; (with_reducible refine (enumerate_Rank.calls (rd l1 x18_1) t209 _ A10.out).mono ?_); rintro e w' ⟨rfl, ⟨nd, rfl⟩⟩; (try first | exact ⟨rfl, _, World.drewN_drewN _ _ _⟩ | exact ⟨rfl, _, Eq.trans (World.drewN_drewN _ _ _) (congrArg (World.drewN _) (Nat.add_assoc _ _ _))⟩))))
                  go_ret
                  exact ⟨by first | rfl | (simp; done) | (simp [i64_w]; done) | (simp; exact i64_w _) | (simp [*]; done), by repeat (first | exact Drawn0.refl _ | apply Drawn0.step)⟩
              · rw [if_neg c7] at H
                exact absurd H (by simp)
            · rw [if_neg c6] at H
              exact absurd H (by simp)
          · rw [if_neg c5] at H
            exact absurd H (by simp)
        · rw [if_neg c4] at H
          have c4b0 : decide (x18_1 < (l0.length : Int)) = false := decide_eq_false c4
          clear c4
          obtain rfl := Option.some.inj H
          go_wp2
          repeat (go_quiet (fail); try go_wp2)
          go_ret
          exact ⟨by first | rfl | (simp; done) | (simp [i64_w]; done) | (simp; exact i64_w _) | (simp [*]; done), by repeat (first | exact Drawn0.refl _ | apply Drawn0.step)⟩
  · rw [if_neg c3] at H
    have c3b0 : ((l0.length : Int) == (l1.length : Int)) = false := beq_eq_false_iff_ne.mpr c3
    have c3b1 : ((l0.length : Int) != (l1.length : Int)) = true := bne_iff_ne.mpr c3
    have c3b2 : (l0.length == l1.length) = false := by first | simpa using c3 | (simp at c3 ⊢; omega)
    obtain rfl := Option.some.inj H
    go_enter Try.func39, Try.ntmps39
    go_wp2
    repeat (go_quiet (fail); try go_wp2)
    go_ret
    exact ⟨by first | rfl | (simp; done) | (simp [i64_w]; done) | (simp; exact i64_w _) | (simp [*]; done), by repeat (first | exact Drawn0.refl _ | apply Drawn0.step)⟩
end Go.Proofs.Ytgcdeablfoomhaa.PAll
end
section
namespace Go.Proofs.Ytgcdeablfoomhaa.PAll
open Go.RowKit Go.Proofs.YtgcdeablfoomhaaW.PrintWords Go.Proofs.YtgcdeablfoomhaaW.PrintLast Go.Proofs.YtgcdeablfoomhaaW.PrintMore
attribute [local go_sem] max2_int min2_int max_two min_two max_three min_three max_four min_four   -- for this text's walks alone
set_option linter.unusedVariables false
set_option linter.unusedSimpArgs false
def enumerate_Less.l0 : Nat → List (List Int) → List (List Int) → Int → Int → Option (Bool)
  | 0, _, _, _, _ => none
  | k + 1, x7, x8, x40, x41 => if x41 < x40 then (if 0 ≤ x41 then (if x41 < (x7.length : Int) then (if x41 < (x8.length : Int) then ((enumerate_compare.f k (rd_L4 x7 x41) (rd_L4 x8 x41)).bind fun t222 => (if t222 = 0 then (enumerate_Less.l0 k x7 x8 x40 (wrap64 (x41 + 1))) else (some (decide (t222 < 0))))) else (none)) else (none)) else (none)) else (some false)
def enumerate_Less.f (k : Nat) (l0_0 : List (List Int)) (l0_1 : List Int) (l0_2 : List Int) (l1_0 : List (List Int)) (l1_1 : List Int) (l1_2 : List Int) : Option (Bool) := (enumerate_Weight.f k l0_0 l0_1 l0_2).bind fun t212 => ((enumerate_Weight.f k l1_0 l1_1 l1_2).bind fun t213 => (if t212 = t213 then (if (l0_0.length : Int) = (l1_0.length : Int) then ((enumerate_lists.f l0_0 l0_1 l0_2).bind fun t214 => ((enumerate_lists.f l1_0 l1_1 l1_2).bind fun t217 => (enumerate_Less.l0 k t214 t217 (t214.length : Int) 0))) else (some (decide ((l0_0.length : Int) < (l1_0.length : Int))))) else (some (decide (t212 < t213)))))
theorem enumerate_Less.mono_l : ∀ k, (∀ y0 y1 y2 y3, LeO (enumerate_Less.l0 k y0 y1 y2 y3) (enumerate_Less.l0 (k + 1) y0 y1 y2 y3))
  | 0 => fun _ _ _ _ r h => by simp [enumerate_Less.l0] at h
  | k + 1 => by
    have ih0 := enumerate_Less.mono_l k
    · intro y0 y1 y2 y3
      unfold enumerate_Less.l0
      repeat' first
      | (with_reducible exact ih0 _ _ _ _)
      | (with_reducible exact enumerate_Weight.mono _ _ _ _)
      | (with_reducible exact enumerate_compare.mono _ _ _)
      | (with_reducible exact LeO.refl _)
      | (with_reducible exact LeO.none _)
      | (with_reducible refine LeO.ite ?_ ?_)
      | (with_reducible refine LeO.bind ?_ (fun _ => ?_))
      | exact ih0 _ _ _ _
      | exact enumerate_Weight.mono _ _ _ _
      | exact enumerate_compare.mono _ _ _
      | exact LeO.none _
      | refine LeO.ite ?_ ?_
      | refine LeO.bind ?_ (fun _ => ?_)
def enumerate_Less.T10 : Bool × List (List Nat × List Nat) := (true, [([], []), ([], []), ([0, 1], [0, 1]), ([2], [2]), ([], []), ([], []), ([4, 5], [4, 5]), ([6], [6]), ([3, 7], [3, 7]), ([8, 8, 0, 1, 2, 3, 4, 5, 6, 7, 8], [8])])
def enumerate_Less.B10 : List Nat := [0, 0, 3, 7, 0, 0, 48, 112, 255, 511]
theorem enumerate_Less.tab10 : rtab .any (opsOf Try.f24 10) = enumerate_Less.T10 := by kernel_rfl
theorem enumerate_Less.bits10 : waitsOk enumerate_Less.T10.2 enumerate_Less.B10 = true := by kernel_rfl
set_option maxHeartbeats 8000000 in
set_option maxRecDepth 100000 in
theorem enumerate_Less.calls (k : Nat) (A0_0 : Option Addr) (c0_0 : Nat) (l0_0 : List (List Int)) (A0_1 : Option Addr) (c0_1 : Nat) (l0_1 : List Int) (A0_2 : Option Addr) (c0_2 : Nat) (l0_2 : List Int) (A1_0 : Option Addr) (c1_0 : Nat) (l1_0 : List (List Int)) (A1_1 : Option Addr) (c1_1 : Nat) (l1_1 : List Int) (A1_2 : Option Addr) (c1_2 : Nat) (l1_2 : List Int) (r : Bool) (w : World) (hr0_0 : Kd.C (Kd.slice 3 (Kd.int .i64)) w A0_0 l0_0.length l0_0) (hc0_0 : l0_0.length ≤ c0_0) (hr0_1 : Kd.C (Kd.int .i64) w A0_1 l0_1.length l0_1) (hc0_1 : l0_1.length ≤ c0_1) (hr0_2 : Kd.C (Kd.int .i64) w A0_2 l0_2.length l0_2) (hc0_2 : l0_2.length ≤ c0_2) (hr1_0 : Kd.C (Kd.slice 3 (Kd.int .i64)) w A1_0 l1_0.length l1_0) (hc1_0 : l1_0.length ≤ c1_0) (hr1_1 : Kd.C (Kd.int .i64) w A1_1 l1_1.length l1_1) (hc1_1 : l1_1.length ≤ c1_1) (hr1_2 : Kd.C (Kd.int .i64) w A1_2 l1_2.length l1_2) (hc1_2 : l1_2.length ≤ c1_2) (h : enumerate_Less.f k l0_0 l0_1 l0_2 l1_0 l1_1 l1_2 = some r) :
    Calls Try.prog 24 #[.agg #[.slice A0_0 l0_0.length c0_0, .slice A0_1 l0_1.length c0_1, .slice A0_2 l0_2.length c0_2], .agg #[.slice A1_0 l1_0.length c1_0, .slice A1_1 l1_1.length c1_1, .slice A1_2 l1_2.length c1_2]] w fun e w' => e = .returned (.bool r) ∧ Below w.heap.size w w' := by
  have hu35 := Try.underlying35
  have HR0_0 := Aside0.mk hr0_0
  have HC0_0 := Aside0.mk hc0_0
  clear hr0_0 hc0_0
  have HR0_1 := Aside0.mk hr0_1
  have HC0_1 := Aside0.mk hc0_1
  clear hr0_1 hc0_1
  have HR0_2 := Aside0.mk hr0_2
  have HC0_2 := Aside0.mk hc0_2
  clear hr0_2 hc0_2
  have HR1_0 := Aside0.mk hr1_0
  have HC1_0 := Aside0.mk hc1_0
  clear hr1_0 hc1_0
  have HR1_1 := Aside0.mk hr1_1
  have HC1_1 := Aside0.mk hc1_1
  clear hr1_1 hc1_1
  have HR1_2 := Aside0.mk hr1_2
  have HC1_2 := Aside0.mk hc1_2
  clear hr1_2 hc1_2
  have HB := Aside0.mk (Below.refl w.heap.size w)
  have H : ((enumerate_Weight.f k l0_0 l0_1 l0_2).bind fun t212 => ((enumerate_Weight.f k l1_0 l1_1 l1_2).bind fun t213 => (if t212 = t213 then (if (l0_0.length : Int) = (l1_0.length : Int) then ((enumerate_lists.f l0_0 l0_1 l0_2).bind fun t214 => ((enumerate_lists.f l1_0 l1_1 l1_2).bind fun t217 => (enumerate_Less.l0 k t214 t217 (t214.length : Int) 0))) else (some (decide ((l0_0.length : Int) < (l1_0.length : Int))))) else (some (decide (t212 < t213)))))) = some r := h
  clear h
  replace H := Option.bind_eq_some_iff.mp H
  obtain ⟨t212, A30, H⟩ := H
  replace H : ((enumerate_Weight.f k l1_0 l1_1 l1_2).bind fun t213 => (if t212 = t213 then (if (l0_0.length : Int) = (l1_0.length : Int) then ((enumerate_lists.f l0_0 l0_1 l0_2).bind fun t214 => ((enumerate_lists.f l1_0 l1_1 l1_2).bind fun t217 => (enumerate_Less.l0 k t214 t217 (t214.length : Int) 0))) else (some (decide ((l0_0.length : Int) < (l1_0.length : Int))))) else (some (decide (t212 < t213))))) = some r := H
  have A3 := Aside0.mk A30
  clear A30
  replace H := Option.bind_eq_some_iff.mp H
  obtain ⟨t213, A40, H⟩ := H
  replace H : (if t212 = t213 then (if (l0_0.length : Int) = (l1_0.length : Int) then ((enumerate_lists.f l0_0 l0_1 l0_2).bind fun t214 => ((enumerate_lists.f l1_0 l1_1 l1_2).bind fun t217 => (enumerate_Less.l0 k t214 t217 (t214.length : Int) 0))) else (some (decide ((l0_0.length : Int) < (l1_0.length : Int))))) else (some (decide (t212 < t213)))) = some r := H
  have A4 := Aside0.mk A40
  clear A40
  by_cases c5 : t212 = t213
  · rw [if_pos c5] at H
    have c5b0 : (t212 == t213) = true := beq_iff_eq.mpr c5
    have c5b1 : (t212 != t213) = false := bne_eq_false_iff_eq.mpr c5
    clear c5
    by_cases c6 : (l0_0.length : Int) = (l1_0.length : Int)
    · rw [if_pos c6] at H
      have c6b0 : ((l0_0.length : Int) == (l1_0.length : Int)) = true := beq_iff_eq.mpr c6
      have c6b1 : ((l0_0.length : Int) != (l1_0.length : Int)) = false := bne_eq_false_iff_eq.mpr c6
      have c6b2 : (l0_0.length == l1_0.length) = true := by first | simpa using c6 | (simp at c6 ⊢; omega)
      clear c6
      replace H := Option.bind_eq_some_iff.mp H
      obtain ⟨t214, A70, H⟩ := H
      replace H : ((enumerate_lists.f l1_0 l1_1 l1_2).bind fun t217 => (enumerate_Less.l0 k t214 t217 (t214.length : Int) 0)) = some r := H
      have A7 := Aside0.mk A70
      clear A70
      replace H := Option.bind_eq_some_iff.mp H
      obtain ⟨t217, A80, H⟩ := H
      replace H : (enumerate_Less.l0 k t214 t217 (t214.length : Int) 0) = some r := H
      have A8 := Aside0.mk A80
      clear A80
      have H' := Aside0.mk H
      clear H
      go_enter Try.func24, Try.ntmps24
      try go_wp2_with (first | ((with_reducible refine gate_dst (N := 2) rfl ?_); refine box_event ?hg (N := 2) ?hd (cs := #[.slice A0_0 l0_0.length c0_0, .slice A0_1 l0_1.length c0_1, .slice A0_2 l0_2.length c0_2]) (t := 35) ?hr ?_; (case hd => rfl); (case hg => rfl); (case hr => first | (go_simp; done) | (go_simp; rfl)); intro gb210 hg w9 hbox hb; have n0_ := Aside0.mk (below_step (by repeat (first | (with_reducible first | exact HB.out | apply below_alloc | apply pw_below_drewN | apply below_drew1) | exact HB.out)) hb); have n1_ := Aside0.mk (hbox); have n2_ := Aside0.mk ((by rw [hg]; exact (below_size (by repeat (first | (with_reducible first | exact HB.out | apply below_alloc | apply pw_below_drewN | apply below_drew1) | exact HB.out))) : w.heap.size ≤ gb210)); have n3_ := Aside0.mk ((by rw [hg]; exact (below_size (by repeat (first | (with_reducible first | exact HB.out | apply below_alloc | apply pw_below_drewN | apply below_drew1) | exact HB.out))) : w.heap.size ≤ gb210)); clear HB; have HB := n0_; have BK210 := n1_; have GW210 := n2_; have GE210 := n3_; clear n0_ n1_ n2_ n3_; clear hb hbox hg) | ((with_reducible refine gate_dst (N := 3) rfl ?_); refine box_event ?hg (N := 3) ?hd (cs := #[.slice A1_0 l1_0.length c1_0, .slice A1_1 l1_1.length c1_1, .slice A1_2 l1_2.length c1_2]) (t := 35) ?hr ?_; (case hd => rfl); (case hg => rfl); (case hr => first | (go_simp; done) | (go_simp; rfl)); intro gb211 hg w10 hbox hb; have n0_ := Aside0.mk (blk_below (g := gb210) (o := .cells #[.slice A0_0 l0_0.length c0_0, .slice A0_1 l0_1.length c0_1, .slice A0_2 l0_2.length c0_2] 35 (0, 0)) (by (with_reducible repeat (first | refine blk_drewN ?_ _ | refine blk_drew ?_ | refine blk_alloc ?_ _)); exact BK210.out) hb); have n1_ := Aside0.mk (below_step (by repeat (first | (with_reducible first | exact HB.out | apply below_alloc | apply pw_below_drewN | apply below_drew1 | refine below_set ?_ GE210.out) | exact HB.out)) hb); have n2_ := Aside0.mk (hbox); have n3_ := Aside0.mk ((by rw [hg]; exact (below_size (by repeat (first | (with_reducible first | exact HB.out | apply below_alloc | apply pw_below_drewN | apply below_drew1 | refine below_set ?_ GE210.out) | exact HB.out))) : w.heap.size ≤ gb211)); have n4_ := Aside0.mk ((by rw [hg]; exact (below_size (by repeat (first | (with_reducible first | exact HB.out | apply below_alloc | apply pw_below_drewN | apply below_drew1 | refine below_set ?_ GE210.out) | exact HB.out))) : w.heap.size ≤ gb211)); have n5_ := Aside0.mk ((by rw [hg]; exact Nat.ne_of_lt (blk_lt (g := gb210) (o := .cells #[.slice A0_0 l0_0.length c0_0, .slice A0_1 l0_1.length c0_1, .slice A0_2 l0_2.length c0_2] 35 (0, 0)) (by (with_reducible repeat (first | refine blk_drewN ?_ _ | refine blk_drew ?_ | refine blk_alloc ?_ _)); exact BK210.out)) : gb210 ≠ gb211)); have n6_ := Aside0.mk ((by rw [hg]; exact Nat.ne_of_gt (blk_lt (g := gb210) (o := .cells #[.slice A0_0 l0_0.length c0_0, .slice A0_1 l0_1.length c0_1, .slice A0_2 l0_2.length c0_2] 35 (0, 0)) (by (with_reducible repeat (first | refine blk_drewN ?_ _ | refine blk_drew ?_ | refine blk_alloc ?_ _)); exact BK210.out)) : gb211 ≠ gb210)); clear BK210; clear HB; have BK210 := n0_; have HB := n1_; have BK211 := n2_; have GW211 := n3_; have GE211 := n4_; have NB210_211 := n5_; have NB211_210 := n6_; clear n0_ n1_ n2_ n3_ n4_ n5_ n6_; clear hb hbox hg))
      have n0_ := Aside0.mk (blk_drew BK210.out)
      have n1_ := Aside0.mk (blk_drew BK211.out)
      have n2_ := Aside0.mk (below_drew1 HB.out)
      clear BK210
      clear BK211
      clear HB
      have BK210 := n0_
      have BK211 := n1_
      have HB := n2_
      clear n0_ n1_ n2_
      refine start_ (n := 6) (S := fun w' => w'.cell? ⟨gb210, 0, none⟩ = some (.slice A0_0 l0_0.length c0_0) ∧ w'.cell? ⟨gb210, 1, none⟩ = some (.slice A0_1 l0_1.length c0_1) ∧ w'.cell? ⟨gb210, 2, none⟩ = some (.slice A0_2 l0_2.length c0_2) ∧ w'.cell? ⟨gb211, 0, none⟩ = some (.slice A1_0 l1_0.length c1_0) ∧ w'.cell? ⟨gb211, 1, none⟩ = some (.slice A1_1 l1_1.length c1_1) ∧ w'.cell? ⟨gb211, 2, none⟩ = some (.slice A1_2 l1_2.length c1_2)) (ds := []) #[false, false, false, false, false, false] (by kernel_rfl) rfl rfl ⟨(blk_cell BK210.out 0).trans rfl, (blk_cell BK210.out 1).trans rfl, (blk_cell BK210.out 2).trans rfl, (blk_cell BK211.out 0).trans rfl, (blk_cell BK211.out 1).trans rfl, (blk_cell BK211.out 2).trans rfl⟩ (fun hHeld => ?_)
      generalize w10.drew = w11 at BK210 BK211 HB hHeld ⊢
      refine take_ (i := 0) (N := some 11) (v := ?_) (a' := ?_) #[true, false, false, false, false, false] rfl rfl (by kernel_rfl) (fun _ _ _ h => h) (Or.inl ⟨by rfl, ?_⟩) hHeld ?_ ?_
      rotate_left
      · rintro w' ⟨s0, s1, s2, s3, s4, s5⟩
        go_simp
        with_reducible rfl
      rotate_left
      · simp only [Act.put, List.setIfInBounds_toArray, List.set_cons_zero, List.set_cons_succ, i64_w, i32_w]
        rfl
      refine take_ (i := 2) (N := some 13) (v := ?_) (a' := ?_) #[true, false, true, false, false, false] rfl rfl (by kernel_rfl) (fun _ _ _ h => h) (Or.inl ⟨by rfl, ?_⟩) hHeld ?_ ?_
      rotate_left
      · rintro w' ⟨s0, s1, s2, s3, s4, s5⟩
        go_simp
        with_reducible rfl
      rotate_left
      · simp only [Act.put, List.setIfInBounds_toArray, List.set_cons_zero, List.set_cons_succ, i64_w, i32_w]
        rfl
      refine one_ (i := 1) (N := some 12) #[true, true, true, false, false, false] rfl rfl (by kernel_rfl) (by decide) (fun K hK => ?_)
      refine goes_ Try.func20 (by kernel_rfl) rfl #[.agg #[.slice A0_0 l0_0.length c0_0, .slice A0_1 l0_1.length c0_1, .slice A0_2 l0_2.length c0_2]] (by rfl) rfl rfl (by (try simp only [List.map_toArray, List.map_cons, List.map_nil]); first | done | rfl | (simp only [List.length_drop, List.length_take]; rfl)) ?_
      with_reducible refine (enumerate_Weight.calls k _ _ l0_0 _ _ l0_1 _ _ l0_2 t212 _ ?side1 ?side2 ?side3 ?side4 ?side5 ?side6 A3.out).mono ?_
      (case side1 => repeat (first | exact (Kd.C_below HR0_0.out HB.out) | (with_reducible refine Kd.C_alloc ?_ _) | (with_reducible refine Kd.C_drewN ?_ _) | (with_reducible refine Kd.C_drew ?_)))
      (case side2 => exact HC0_0.out)
      (case side3 => repeat (first | exact (Kd.C_below HR0_1.out HB.out) | (with_reducible refine Kd.C_alloc ?_ _) | (with_reducible refine Kd.C_drewN ?_ _) | (with_reducible refine Kd.C_drew ?_)))
      (case side4 => exact HC0_1.out)
      (case side5 => repeat (first | exact (Kd.C_below HR0_2.out HB.out) | (with_reducible refine Kd.C_alloc ?_ _) | (with_reducible refine Kd.C_drewN ?_ _) | (with_reducible refine Kd.C_drew ?_)))
      (case side6 => exact HC0_2.out)
      rintro e w12 ⟨rfl, hb⟩
      refine ⟨_, rfl, ?_⟩
      have n0_ := Aside0.mk (blk_below (g := gb210) (o := .cells #[.slice A0_0 l0_0.length c0_0, .slice A0_1 l0_1.length c0_1, .slice A0_2 l0_2.length c0_2] 35 (0, 0)) (by (with_reducible repeat (first | refine blk_drewN ?_ _ | refine blk_drew ?_ | refine blk_alloc ?_ _)); exact BK210.out) hb)
      have n1_ := Aside0.mk (blk_below (g := gb211) (o := .cells #[.slice A1_0 l1_0.length c1_0, .slice A1_1 l1_1.length c1_1, .slice A1_2 l1_2.length c1_2] 35 (0, 0)) (by (with_reducible repeat (first | refine blk_drewN ?_ _ | refine blk_drew ?_ | refine blk_alloc ?_ _)); exact BK211.out) hb)
      have n2_ := Aside0.mk (below_step (by repeat (first | (with_reducible first | exact HB.out | apply below_alloc | apply pw_below_drewN | apply below_drew1 | refine below_set ?_ GE210.out | refine below_set ?_ GE211.out) | exact HB.out)) hb)
      clear BK210
      clear BK211
      clear HB
      have BK210 := n0_
      have BK211 := n1_
      have HB := n2_
      clear n0_ n1_ n2_
      (try clear hb)
      (try clear hb2)
      (try clear hk)
      (try clear hi)
      refine hK.out _ _ ⟨(blk_cell BK210.out 0).trans rfl, (blk_cell BK210.out 1).trans rfl, (blk_cell BK210.out 2).trans rfl, (blk_cell BK211.out 0).trans rfl, (blk_cell BK211.out 1).trans rfl, (blk_cell BK211.out 2).trans rfl⟩ (fun hHeld => ?_)
      clear hK K
      refine norm_ (a' := ?_) ?_ ?_
      rotate_left
      · show Act.put _ (some 12) _ = _
        simp only [Act.put, List.setIfInBounds_toArray, List.set_cons_zero, List.set_cons_succ, i64_w, i32_w]
        rfl
      refine one_ (i := 3) (N := some 14) #[true, true, true, true, false, false] rfl rfl (by kernel_rfl) (by decide) (fun K hK => ?_)
      refine goes_ Try.func20 (by kernel_rfl) rfl #[.agg #[.slice A1_0 l1_0.length c1_0, .slice A1_1 l1_1.length c1_1, .slice A1_2 l1_2.length c1_2]] (by rfl) rfl rfl (by (try simp only [List.map_toArray, List.map_cons, List.map_nil]); first | done | rfl | (simp only [List.length_drop, List.length_take]; rfl)) ?_
      with_reducible refine (enumerate_Weight.calls k _ _ l1_0 _ _ l1_1 _ _ l1_2 t213 _ ?side1 ?side2 ?side3 ?side4 ?side5 ?side6 A4.out).mono ?_
      (case side1 => repeat (first | exact (Kd.C_below HR1_0.out HB.out) | (with_reducible refine Kd.C_alloc ?_ _) | (with_reducible refine Kd.C_drewN ?_ _) | (with_reducible refine Kd.C_drew ?_)))
      (case side2 => exact HC1_0.out)
      (case side3 => repeat (first | exact (Kd.C_below HR1_1.out HB.out) | (with_reducible refine Kd.C_alloc ?_ _) | (with_reducible refine Kd.C_drewN ?_ _) | (with_reducible refine Kd.C_drew ?_)))
      (case side4 => exact HC1_1.out)
      (case side5 => repeat (first | exact (Kd.C_below HR1_2.out HB.out) | (with_reducible refine Kd.C_alloc ?_ _) | (with_reducible refine Kd.C_drewN ?_ _) | (with_reducible refine Kd.C_drew ?_)))
      (case side6 => exact HC1_2.out)
      rintro e w13 ⟨rfl, hb⟩
      refine ⟨_, rfl, ?_⟩
      have n0_ := Aside0.mk (blk_below (g := gb210) (o := .cells #[.slice A0_0 l0_0.length c0_0, .slice A0_1 l0_1.length c0_1, .slice A0_2 l0_2.length c0_2] 35 (0, 0)) (by (with_reducible repeat (first | refine blk_drewN ?_ _ | refine blk_drew ?_ | refine blk_alloc ?_ _)); exact BK210.out) hb)
      have n1_ := Aside0.mk (blk_below (g := gb211) (o := .cells #[.slice A1_0 l1_0.length c1_0, .slice A1_1 l1_1.length c1_1, .slice A1_2 l1_2.length c1_2] 35 (0, 0)) (by (with_reducible repeat (first | refine blk_drewN ?_ _ | refine blk_drew ?_ | refine blk_alloc ?_ _)); exact BK211.out) hb)
      have n2_ := Aside0.mk (below_step (by repeat (first | (with_reducible first | exact HB.out | apply below_alloc | apply pw_below_drewN | apply below_drew1 | refine below_set ?_ GE210.out | refine below_set ?_ GE211.out) | exact HB.out)) hb)
      clear BK210
      clear BK211
      clear HB
      have BK210 := n0_
      have BK211 := n1_
      have HB := n2_
      clear n0_ n1_ n2_
      (try clear hb)
      (try clear hb2)
      (try clear hk)
      (try clear hi)
      refine hK.out _ _ ⟨(blk_cell BK210.out 0).trans rfl, (blk_cell BK210.out 1).trans rfl, (blk_cell BK210.out 2).trans rfl, (blk_cell BK211.out 0).trans rfl, (blk_cell BK211.out 1).trans rfl, (blk_cell BK211.out 2).trans rfl⟩ (fun hHeld => ?_)
      clear hK K
      refine norm_ (a' := ?_) ?_ ?_
      rotate_left
      · show Act.put _ (some 14) _ = _
        simp only [Act.put, List.setIfInBounds_toArray, List.set_cons_zero, List.set_cons_succ, i64_w, i32_w]
        rfl
      refine pure_ (i := 4) (N := some 5) (v := ?_) (a' := ?_) #[true, true, true, true, true, false] rfl rfl (by kernel_rfl) (fun _ _ _ h => h) (Or.inl ⟨by rfl, ?_⟩) ?_ ?_
      rotate_left
      · intro w'
        go_simp
        with_reducible rfl
      rotate_left
      · simp only [Act.put, List.setIfInBounds_toArray, List.set_cons_zero, List.set_cons_succ, i64_w, i32_w]
        rfl
      refine pure_ (i := 5) (N := some 6) (v := ?_) (a' := ?_) #[true, true, true, true, true, true] rfl rfl (by kernel_rfl) (fun _ _ _ h => h) (Or.inl ⟨by rfl, ?_⟩) ?_ ?_
      rotate_left
      · intro w'
        go_simp
        with_reducible rfl
      rotate_left
      · simp only [Act.put, List.setIfInBounds_toArray, List.set_cons_zero, List.set_cons_succ, i64_w, i32_w]
        rfl
      refine done_ (by kernel_rfl) ?_
      have hnb14 := NB210_211.out
      have hnc14 := NB211_210.out
      have hcz15_0 : w13.cell? ⟨gb210, 0, none⟩ = some (.slice A0_0 l0_0.length c0_0) := (blk_cell BK210.out 0).trans rfl
      have hcz15_1 : w13.cell? ⟨gb210, 1, none⟩ = some (.slice A0_1 l0_1.length c0_1) := (blk_cell BK210.out 1).trans rfl
      have hcz15_2 : w13.cell? ⟨gb210, 2, none⟩ = some (.slice A0_2 l0_2.length c0_2) := (blk_cell BK210.out 2).trans rfl
      have hfz15_0 := blk_frozen BK210.out 0
      have hfz15_1 := blk_frozen BK210.out 1
      have hfz15_2 := blk_frozen BK210.out 2
      have hcz16_0 : w13.cell? ⟨gb211, 0, none⟩ = some (.slice A1_0 l1_0.length c1_0) := (blk_cell BK211.out 0).trans rfl
      have hcz16_1 : w13.cell? ⟨gb211, 1, none⟩ = some (.slice A1_1 l1_1.length c1_1) := (blk_cell BK211.out 1).trans rfl
      have hcz16_2 : w13.cell? ⟨gb211, 2, none⟩ = some (.slice A1_2 l1_2.length c1_2) := (blk_cell BK211.out 2).trans rfl
      have hfz16_0 := blk_frozen BK211.out 0
      have hfz16_1 := blk_frozen BK211.out 1
      have hfz16_2 := blk_frozen BK211.out 2
      try go_wp2
      have n0_ := Aside0.mk (blk_drew BK210.out)
      have n1_ := Aside0.mk (blk_drew BK211.out)
      have n2_ := Aside0.mk (below_drew1 HB.out)
      clear BK210
      clear BK211
      clear HB
      have BK210 := n0_
      have BK211 := n1_
      have HB := n2_
      clear n0_ n1_ n2_
      refine start_ (n := 6) (S := fun w' => w'.cell? ⟨gb210, 0, none⟩ = some (.slice A0_0 l0_0.length c0_0) ∧ w'.cell? ⟨gb210, 1, none⟩ = some (.slice A0_1 l0_1.length c0_1) ∧ w'.cell? ⟨gb210, 2, none⟩ = some (.slice A0_2 l0_2.length c0_2) ∧ w'.cell? ⟨gb211, 0, none⟩ = some (.slice A1_0 l1_0.length c1_0) ∧ w'.cell? ⟨gb211, 1, none⟩ = some (.slice A1_1 l1_1.length c1_1) ∧ w'.cell? ⟨gb211, 2, none⟩ = some (.slice A1_2 l1_2.length c1_2)) (ds := []) #[false, false, false, false, false, false] (by kernel_rfl) rfl rfl ⟨(blk_cell BK210.out 0).trans rfl, (blk_cell BK210.out 1).trans rfl, (blk_cell BK210.out 2).trans rfl, (blk_cell BK211.out 0).trans rfl, (blk_cell BK211.out 1).trans rfl, (blk_cell BK211.out 2).trans rfl⟩ (fun hHeld => ?_)
      generalize w13.drew = w17 at BK210 BK211 HB hHeld ⊢
      refine take_ (i := 0) (N := some 35) (v := ?_) (a' := ?_) #[true, false, false, false, false, false] rfl rfl (by kernel_rfl) (fun _ _ _ h => h) (Or.inl ⟨by rfl, ?_⟩) hHeld ?_ ?_
      rotate_left
      · rintro w' ⟨s0, s1, s2, s3, s4, s5⟩
        go_simp
        with_reducible rfl
      rotate_left
      · simp only [Act.put, List.setIfInBounds_toArray, List.set_cons_zero, List.set_cons_succ, i64_w, i32_w]
        rfl
      refine take_ (i := 2) (N := some 37) (v := ?_) (a' := ?_) #[true, false, true, false, false, false] rfl rfl (by kernel_rfl) (fun _ _ _ h => h) (Or.inl ⟨by rfl, ?_⟩) hHeld ?_ ?_
      rotate_left
      · rintro w' ⟨s0, s1, s2, s3, s4, s5⟩
        go_simp
        with_reducible rfl
      rotate_left
      · simp only [Act.put, List.setIfInBounds_toArray, List.set_cons_zero, List.set_cons_succ, i64_w, i32_w]
        rfl
      refine one_ (i := 1) (N := some 36) #[true, true, true, false, false, false] rfl rfl (by kernel_rfl) (by decide) (fun K hK => ?_)
      refine goes_ Try.func35 (by kernel_rfl) rfl #[.agg #[.slice A0_0 l0_0.length c0_0, .slice A0_1 l0_1.length c0_1, .slice A0_2 l0_2.length c0_2]] (by rfl) rfl rfl (by (try simp only [List.map_toArray, List.map_cons, List.map_nil]); first | done | rfl | (simp only [List.length_drop, List.length_take]; rfl)) ?_
      with_reducible refine (enumerate_lists.calls (fun k_ => k_ < w.heap.size) _ _ l0_0 (fun k_ => k_ < w.heap.size) _ _ l0_1 (fun k_ => k_ < w.heap.size) _ _ l0_2 t214 _ ?side1 ?side2 ?side3 A7.out).mono ?_
      (case side1 => exact Kd.V_mk HC0_0.out (Kd.F_below (Kd.C_F (Kd.heap_slice 3 (Kd.heap_int .i64)) HR0_0.out) (by repeat (first | (with_reducible first | exact HB.out | apply below_alloc | apply pw_below_drewN | apply below_drew1 | refine below_set ?_ GE210.out | refine below_set ?_ GE211.out) | exact HB.out))))
      (case side2 => exact Kd.V_mk HC0_1.out (Kd.F_below (Kd.C_F (Kd.heap_int .i64) HR0_1.out) (by repeat (first | (with_reducible first | exact HB.out | apply below_alloc | apply pw_below_drewN | apply below_drew1 | refine below_set ?_ GE210.out | refine below_set ?_ GE211.out) | exact HB.out))))
      (case side3 => exact Kd.V_mk HC0_2.out (Kd.F_below (Kd.C_F (Kd.heap_int .i64) HR0_2.out) (by repeat (first | (with_reducible first | exact HB.out | apply below_alloc | apply pw_below_drewN | apply below_drew1 | refine below_set ?_ GE210.out | refine below_set ?_ GE211.out) | exact HB.out))))
      rintro e w18 ⟨v215, rfl, ho0, hb⟩
      refine ⟨_, rfl, ?_⟩
      have n0_ := Aside0.mk (Kd.N_lower (Kd.N_mono (ok' := fun k_ => k_ ≠ gb210 ∧ k_ ≠ gb211) ho0 (fun k_ hk_ => ⟨Or.elim hk_ (fun hs_ => Or.elim hs_ (fun hs_ => fun e_ => Nat.not_le.2 hs_ (by rw [e_]; exact GW210.out)) (fun hs_ => Or.elim hs_ (fun hs_ => fun e_ => Nat.not_le.2 hs_ (by rw [e_]; exact GW210.out)) (fun hs_ => fun e_ => Nat.not_le.2 hs_ (by rw [e_]; exact GW210.out)))) (fun hn_ => (Kd.freshB (g := gb210) (o := .cells #[.slice A0_0 l0_0.length c0_0, .slice A0_1 l0_1.length c0_1, .slice A0_2 l0_2.length c0_2] 35 (0, 0)) (by (with_reducible repeat (first | refine blk_drewN ?_ _ | refine blk_drew ?_ | refine blk_alloc ?_ _)); exact BK210.out) k_ hn_)), Or.elim hk_ (fun hs_ => Or.elim hs_ (fun hs_ => fun e_ => Nat.not_le.2 hs_ (by rw [e_]; exact GW211.out)) (fun hs_ => Or.elim hs_ (fun hs_ => fun e_ => Nat.not_le.2 hs_ (by rw [e_]; exact GW211.out)) (fun hs_ => fun e_ => Nat.not_le.2 hs_ (by rw [e_]; exact GW211.out)))) (fun hn_ => (Kd.freshB (g := gb211) (o := .cells #[.slice A1_0 l1_0.length c1_0, .slice A1_1 l1_1.length c1_1, .slice A1_2 l1_2.length c1_2] 35 (0, 0)) (by (with_reducible repeat (first | refine blk_drewN ?_ _ | refine blk_drew ?_ | refine blk_alloc ?_ _)); exact BK211.out) k_ hn_))⟩)) (below_size (by repeat (first | (with_reducible first | exact HB.out | apply below_alloc | apply pw_below_drewN | apply below_drew1 | refine below_set ?_ GE210.out | refine below_set ?_ GE211.out) | exact HB.out))))
      have n1_ := Aside0.mk (blk_below (g := gb210) (o := .cells #[.slice A0_0 l0_0.length c0_0, .slice A0_1 l0_1.length c0_1, .slice A0_2 l0_2.length c0_2] 35 (0, 0)) (by (with_reducible repeat (first | refine blk_drewN ?_ _ | refine blk_drew ?_ | refine blk_alloc ?_ _)); exact BK210.out) hb)
      have n2_ := Aside0.mk (blk_below (g := gb211) (o := .cells #[.slice A1_0 l1_0.length c1_0, .slice A1_1 l1_1.length c1_1, .slice A1_2 l1_2.length c1_2] 35 (0, 0)) (by (with_reducible repeat (first | refine blk_drewN ?_ _ | refine blk_drew ?_ | refine blk_alloc ?_ _)); exact BK211.out) hb)
      have n3_ := Aside0.mk (below_step (by repeat (first | (with_reducible first | exact HB.out | apply below_alloc | apply pw_below_drewN | apply below_drew1 | refine below_set ?_ GE210.out | refine below_set ?_ GE211.out) | exact HB.out)) hb)
      clear BK210
      clear BK211
      clear HB
      have HO216 := n0_
      have BK210 := n1_
      have BK211 := n2_
      have HB := n3_
      clear n0_ n1_ n2_ n3_
      (try clear hb)
      (try clear hb2)
      (try clear hk)
      (try clear hi)
      (try clear ho0)
      refine hK.out _ _ ⟨(blk_cell BK210.out 0).trans rfl, (blk_cell BK210.out 1).trans rfl, (blk_cell BK210.out 2).trans rfl, (blk_cell BK211.out 0).trans rfl, (blk_cell BK211.out 1).trans rfl, (blk_cell BK211.out 2).trans rfl⟩ (fun hHeld => ?_)
      clear hK K
      refine norm_ (a' := ?_) ?_ ?_
      rotate_left
      · show Act.put _ (some 36) _ = _
        simp only [Act.put, List.setIfInBounds_toArray, List.set_cons_zero, List.set_cons_succ, i64_w, i32_w]
        rfl
      refine one_ (i := 3) (N := some 38) #[true, true, true, true, false, false] rfl rfl (by kernel_rfl) (by decide) (fun K hK => ?_)
      refine goes_ Try.func35 (by kernel_rfl) rfl #[.agg #[.slice A1_0 l1_0.length c1_0, .slice A1_1 l1_1.length c1_1, .slice A1_2 l1_2.length c1_2]] (by rfl) rfl rfl (by (try simp only [List.map_toArray, List.map_cons, List.map_nil]); first | done | rfl | (simp only [List.length_drop, List.length_take]; rfl)) ?_
      with_reducible refine (enumerate_lists.calls (fun k_ => k_ < w.heap.size) _ _ l1_0 (fun k_ => k_ < w.heap.size) _ _ l1_1 (fun k_ => k_ < w.heap.size) _ _ l1_2 t217 _ ?side1 ?side2 ?side3 A8.out).mono ?_
      (case side1 => exact Kd.V_mk HC1_0.out (Kd.F_below (Kd.C_F (Kd.heap_slice 3 (Kd.heap_int .i64)) HR1_0.out) (by repeat (first | (with_reducible first | exact HB.out | apply below_alloc | apply pw_below_drewN | apply below_drew1 | refine below_set ?_ GE210.out | refine below_set ?_ GE211.out) | exact HB.out))))
      (case side2 => exact Kd.V_mk HC1_1.out (Kd.F_below (Kd.C_F (Kd.heap_int .i64) HR1_1.out) (by repeat (first | (with_reducible first | exact HB.out | apply below_alloc | apply pw_below_drewN | apply below_drew1 | refine below_set ?_ GE210.out | refine below_set ?_ GE211.out) | exact HB.out))))
      (case side3 => exact Kd.V_mk HC1_2.out (Kd.F_below (Kd.C_F (Kd.heap_int .i64) HR1_2.out) (by repeat (first | (with_reducible first | exact HB.out | apply below_alloc | apply pw_below_drewN | apply below_drew1 | refine below_set ?_ GE210.out | refine below_set ?_ GE211.out) | exact HB.out))))
      rintro e w19 ⟨v218, rfl, ho0, hb⟩
      refine ⟨_, rfl, ?_⟩
      have n0_ := Aside0.mk (Kd.N_elder' (by (with_reducible repeat (first | apply Kd.N_alloc | apply Kd.N_drewN | apply Kd.N_drew)); exact HO216.out) (Kd.N_base ho0) hb)
      have n1_ := Aside0.mk (Kd.N_lower (Kd.N_mono (ok' := fun k_ => some k_ ≠ (v215 : Value).ownBlock ∧ k_ ≠ gb210 ∧ k_ ≠ gb211) ho0 (fun k_ hk_ => ⟨Or.elim hk_ (fun hs_ => Or.elim hs_ (fun hs_ => fun e_ => Nat.not_le.2 hs_ (Kd.N_base HO216.out k_ e_.symm)) (fun hs_ => Or.elim hs_ (fun hs_ => fun e_ => Nat.not_le.2 hs_ (Kd.N_base HO216.out k_ e_.symm)) (fun hs_ => fun e_ => Nat.not_le.2 hs_ (Kd.N_base HO216.out k_ e_.symm)))) (fun hn_ => (Kd.fresh' (Kd.N_lt (by (with_reducible repeat (first | apply Kd.N_alloc | apply Kd.N_drewN | apply Kd.N_drew)); exact HO216.out)) k_ hn_)), Or.elim hk_ (fun hs_ => Or.elim hs_ (fun hs_ => fun e_ => Nat.not_le.2 hs_ (by rw [e_]; exact GW210.out)) (fun hs_ => Or.elim hs_ (fun hs_ => fun e_ => Nat.not_le.2 hs_ (by rw [e_]; exact GW210.out)) (fun hs_ => fun e_ => Nat.not_le.2 hs_ (by rw [e_]; exact GW210.out)))) (fun hn_ => (Kd.freshB (g := gb210) (o := .cells #[.slice A0_0 l0_0.length c0_0, .slice A0_1 l0_1.length c0_1, .slice A0_2 l0_2.length c0_2] 35 (0, 0)) (by (with_reducible repeat (first | refine blk_drewN ?_ _ | refine blk_drew ?_ | refine blk_alloc ?_ _)); exact BK210.out) k_ hn_)), Or.elim hk_ (fun hs_ => Or.elim hs_ (fun hs_ => fun e_ => Nat.not_le.2 hs_ (by rw [e_]; exact GW211.out)) (fun hs_ => Or.elim hs_ (fun hs_ => fun e_ => Nat.not_le.2 hs_ (by rw [e_]; exact GW211.out)) (fun hs_ => fun e_ => Nat.not_le.2 hs_ (by rw [e_]; exact GW211.out)))) (fun hn_ => (Kd.freshB (g := gb211) (o := .cells #[.slice A1_0 l1_0.length c1_0, .slice A1_1 l1_1.length c1_1, .slice A1_2 l1_2.length c1_2] 35 (0, 0)) (by (with_reducible repeat (first | refine blk_drewN ?_ _ | refine blk_drew ?_ | refine blk_alloc ?_ _)); exact BK211.out) k_ hn_))⟩)) (below_size (by repeat (first | (with_reducible first | exact HB.out | apply below_alloc | apply pw_below_drewN | apply below_drew1 | refine below_set ?_ GE210.out | refine below_set ?_ GE211.out) | exact HB.out))))
      have n2_ := Aside0.mk (blk_below (g := gb210) (o := .cells #[.slice A0_0 l0_0.length c0_0, .slice A0_1 l0_1.length c0_1, .slice A0_2 l0_2.length c0_2] 35 (0, 0)) (by (with_reducible repeat (first | refine blk_drewN ?_ _ | refine blk_drew ?_ | refine blk_alloc ?_ _)); exact BK210.out) hb)
      have n3_ := Aside0.mk (blk_below (g := gb211) (o := .cells #[.slice A1_0 l1_0.length c1_0, .slice A1_1 l1_1.length c1_1, .slice A1_2 l1_2.length c1_2] 35 (0, 0)) (by (with_reducible repeat (first | refine blk_drewN ?_ _ | refine blk_drew ?_ | refine blk_alloc ?_ _)); exact BK211.out) hb)
      have n4_ := Aside0.mk (below_step (by repeat (first | (with_reducible first | exact HB.out | apply below_alloc | apply pw_below_drewN | apply below_drew1 | refine below_set ?_ GE210.out | refine below_set ?_ GE211.out) | exact HB.out)) hb)
      clear HO216
      clear BK210
      clear BK211
      clear HB
      have HO216 := n0_
      have HO219 := n1_
      have BK210 := n2_
      have BK211 := n3_
      have HB := n4_
      clear n0_ n1_ n2_ n3_ n4_
      (try clear hb)
      (try clear hb2)
      (try clear hk)
      (try clear hi)
      (try clear ho0)
      refine hK.out _ _ ⟨(blk_cell BK210.out 0).trans rfl, (blk_cell BK210.out 1).trans rfl, (blk_cell BK210.out 2).trans rfl, (blk_cell BK211.out 0).trans rfl, (blk_cell BK211.out 1).trans rfl, (blk_cell BK211.out 2).trans rfl⟩ (fun hHeld => ?_)
      clear hK K
      refine norm_ (a' := ?_) ?_ ?_
      rotate_left
      · show Act.put _ (some 38) _ = _
        simp only [Act.put, List.setIfInBounds_toArray, List.set_cons_zero, List.set_cons_succ, i64_w, i32_w]
        rfl
      refine pure_ (i := 4) (N := some 7) (v := ?_) (a' := ?_) #[true, true, true, true, true, false] rfl rfl (by kernel_rfl) (fun _ _ _ h => h) (Or.inl ⟨by rfl, ?_⟩) ?_ ?_
      rotate_left
      · intro w'
        go_simp
        with_reducible rfl
      rotate_left
      · simp only [Act.put, List.setIfInBounds_toArray, List.set_cons_zero, List.set_cons_succ, i64_w, i32_w]
        rfl
      refine pure_ (i := 5) (N := some 8) (v := ?_) (a' := ?_) #[true, true, true, true, true, true] rfl rfl (by kernel_rfl) (fun _ _ _ h => h) (Or.inl ⟨by rfl, ?_⟩) ?_ ?_
      rotate_left
      · intro w'
        go_simp
        with_reducible rfl
      rotate_left
      · simp only [Act.put, List.setIfInBounds_toArray, List.set_cons_zero, List.set_cons_succ, i64_w, i32_w]
        rfl
      refine done_ (by kernel_rfl) ?_
      obtain ⟨Ao20, co20, eo20⟩ := Kd.N_slice HO216.out
      subst eo20
      try go_wp2
      go_loopg [41] k (fun kq v41 w' => ∃ (x41_1 : Int), v41 = .int .i64 x41_1 ∧ Aside0 (enumerate_Less.l0 kq t214 t217 (t214.length : Int) x41_1 = some r) ∧ Aside0 (kq ≤ k) ∧ Aside0 (Kd.N (Kd.slice 3 (Kd.int .i64)) 33 w' w.heap.size (fun k_ => some k_ ≠ (v218 : Value).ownBlock ∧ k_ ≠ gb210 ∧ k_ ≠ gb211) (.slice Ao20 t214.length co20) t214) ∧ Aside0 (Kd.N (Kd.slice 3 (Kd.int .i64)) 33 w' w.heap.size (fun k_ => some k_ ≠ ((.slice Ao20 t214.length co20) : Value).ownBlock ∧ k_ ≠ gb210 ∧ k_ ≠ gb211) v218 t217) ∧ Aside0 (w'.heap[gb210]? = some (.cells #[(.slice A0_0 l0_0.length c0_0), (.slice A0_1 l0_1.length c0_1), (.slice A0_2 l0_2.length c0_2)] 35 (0, 0))) ∧ Aside0 (w'.heap[gb211]? = some (.cells #[(.slice A1_0 l1_0.length c1_0), (.slice A1_1 l1_1.length c1_1), (.slice A1_2 l1_2.length c1_2)] 35 (0, 0))) ∧ Aside0 (Below w.heap.size w w'))
      case atStart => exact ⟨(0), (by first | rfl | (simp; done) | (simp [*]; done)), H', ⟨Nat.le_refl _⟩, ⟨by (with_reducible repeat (first | apply Kd.N_alloc | apply Kd.N_drewN | apply Kd.N_drew)); exact Kd.N_mono HO216.out (fun _ hk => ⟨hk.2, ⟨hk.1.1, hk.1.2⟩⟩)⟩, ⟨by (with_reducible repeat (first | apply Kd.N_alloc | apply Kd.N_drewN | apply Kd.N_drew)); exact HO219.out⟩, ⟨by (with_reducible repeat (first | refine blk_drewN ?_ _ | refine blk_drew ?_ | refine blk_alloc ?_ _)); exact BK210.out⟩, ⟨by (with_reducible repeat (first | refine blk_drewN ?_ _ | refine blk_drew ?_ | refine blk_alloc ?_ _)); exact BK211.out⟩, ⟨by repeat (first | (with_reducible first | exact HB.out | apply below_alloc | apply pw_below_drewN | apply below_drew1 | refine below_set ?_ GE210.out | refine below_set ?_ GE211.out) | exact HB.out)⟩⟩
      case round =>
        clear H'
        try clear c1
        try clear c2
        try clear p2
        try clear c3
        try clear c5
        try clear c5b0
        try clear c5b1
        try clear c6
        try clear c6b0
        try clear c6b1
        try clear c6b2
        try clear c14
        try clear c20
        try clear hcz15_0
        try clear hcz15_1
        try clear hcz15_2
        try clear hcz16_0
        try clear hcz16_1
        try clear hcz16_2
        try clear hfz15_0
        try clear hfz15_1
        try clear hfz15_2
        try clear hfz16_0
        try clear hfz16_1
        try clear hfz16_2
        obtain ⟨x41_1, rfl, HA, HK1, HO_7, HO_8, BK210, BK211, HB⟩ := hrel
        cases gk with
        | zero => exact absurd HA.out (by simp [enumerate_Less.l0])
        | succ k1 =>
          have H := HA.out
          clear HA
          simp only [enumerate_Less.l0] at H
          by_cases c21 : x41_1 < (t214.length : Int)
          · rw [if_pos c21] at H
            have c21b0 : decide (x41_1 < (t214.length : Int)) = true := decide_eq_true c21
            clear c21
            by_cases c22 : 0 ≤ x41_1
            · rw [if_pos c22] at H
              have c22b0 : decide (0 ≤ x41_1) = true := decide_eq_true c22
              clear c22
              by_cases c23 : x41_1 < (t214.length : Int)
              · rw [if_pos c23] at H
                have c23b0 : decide (x41_1 < (t214.length : Int)) = true := decide_eq_true c23
                clear c23
                by_cases c24 : x41_1 < (t217.length : Int)
                · rw [if_pos c24] at H
                  have c24b0 : decide (x41_1 < (t217.length : Int)) = true := decide_eq_true c24
                  clear c24
                  replace H := Option.bind_eq_some_iff.mp H
                  obtain ⟨t222, A250, H⟩ := H
                  replace H : (if t222 = 0 then (enumerate_Less.l0 k1 t214 t217 (t214.length : Int) (wrap64 (x41_1 + 1))) else (some (decide (t222 < 0)))) = some r := H
                  have A25 := Aside0.mk A250
                  clear A250
                  by_cases c26 : t222 = 0
                  · rw [if_pos c26] at H
                    have c26b0 : (t222 == 0) = true := beq_iff_eq.mpr c26
                    have c26b1 : (t222 != 0) = false := bne_eq_false_iff_eq.mpr c26
                    clear c26
                    have H' := Aside0.mk H
                    clear H
                    try go_wp2
                    have n0_ := Aside0.mk (Kd.N_drew HO_7.out)
                    have n1_ := Aside0.mk (Kd.N_drew HO_8.out)
                    have n2_ := Aside0.mk (blk_drew BK210.out)
                    have n3_ := Aside0.mk (blk_drew BK211.out)
                    have n4_ := Aside0.mk (below_drew1 HB.out)
                    clear HO_7
                    clear HO_8
                    clear BK210
                    clear BK211
                    clear HB
                    have HO_7 := n0_
                    have HO_8 := n1_
                    have BK210 := n2_
                    have BK211 := n3_
                    have HB := n4_
                    clear n0_ n1_ n2_ n3_ n4_
                    have p220 : 0 ≤ (x41_1 : Int) := of_decide_eq_true (by first | (with_reducible assumption) | assumption)
                    have q220 : x41_1 < (t214.length : Int) := of_decide_eq_true (by first | (with_reducible assumption) | assumption)
                    obtain ⟨ad220, A220_0, c220_0, e220, hx220_0, hl220_0, hi220_0⟩ := at_L4 (Kd.N_reads' HO_7.out).2.2 x41_1 p220 q220
                    cases e220
                    obtain ⟨ce220, hce220, hMe220, hcc220⟩ := Kd.N_get HO_7.out [] x41_1 p220 (by first | exact q220 | exact of_decide_eq_true (by first | (with_reducible assumption) | assumption) | (have e_ := (Kd.N_reads' HO_7.out).1; omega))
                    obtain ⟨ua220_0, uc220_0, rfl, ul220_0, ge220_0⟩ := Kd.FK_slice_open hMe220
                    have hv220_0 := hcc220 0 _ rfl
                    rw [Nat.add_zero, show ((Kd.slice 3 (Kd.int .i64))).sz = 1 from rfl, Nat.mul_one] at hv220_0
                    replace hv220_0 := Option.some.inj (hv220_0.symm.trans hx220_0)
                    injection hv220_0 with hva_ hvn_ hvc_
                    rw [hva_] at ge220_0
                    rw [hvc_] at ul220_0
                    have HL220_0 := Aside0.mk (show Kd.V (Kd.int .i64) 3 _ w.heap.size _ _ (rd_L4 t214 x41_1) from Kd.V_mk ul220_0 ge220_0)
                    clear hva_ hvn_ hvc_ ge220_0 ul220_0
                    clear hcc220 hce220
                    have HR220_0 := Aside0.mk hi220_0
                    have HC220_0 := Aside0.mk hl220_0
                    clear hi220_0 hl220_0
                    replace p220 := eq_true p220
                    replace q220 := eq_true q220
                    obtain ⟨Ao28, co28, eo28⟩ := Kd.N_slice HO_8.out
                    (first | subst eo28 | (injection eo28 with f1_ f2_ f3_; have f4_ := f1_.symm; have f5_ := f3_.symm; clear f1_ f2_ f3_; subst f4_; subst f5_))
                    have p221 : 0 ≤ (x41_1 : Int) := of_decide_eq_true (by first | (with_reducible assumption) | assumption)
                    have q221 : x41_1 < (t217.length : Int) := of_decide_eq_true (by first | (with_reducible assumption) | assumption)
                    obtain ⟨ad221, A221_0, c221_0, e221, hx221_0, hl221_0, hi221_0⟩ := at_L4 (Kd.N_reads' HO_8.out).2.2 x41_1 p221 q221
                    cases e221
                    obtain ⟨ce221, hce221, hMe221, hcc221⟩ := Kd.N_get HO_8.out [] x41_1 p221 (by first | exact q221 | exact of_decide_eq_true (by first | (with_reducible assumption) | assumption) | (have e_ := (Kd.N_reads' HO_8.out).1; omega))
                    obtain ⟨ua221_0, uc221_0, rfl, ul221_0, ge221_0⟩ := Kd.FK_slice_open hMe221
                    have hv221_0 := hcc221 0 _ rfl
                    rw [Nat.add_zero, show ((Kd.slice 3 (Kd.int .i64))).sz = 1 from rfl, Nat.mul_one] at hv221_0
                    replace hv221_0 := Option.some.inj (hv221_0.symm.trans hx221_0)
                    injection hv221_0 with hva_ hvn_ hvc_
                    rw [hva_] at ge221_0
                    rw [hvc_] at ul221_0
                    have HL221_0 := Aside0.mk (show Kd.V (Kd.int .i64) 3 _ w.heap.size _ _ (rd_L4 t217 x41_1) from Kd.V_mk ul221_0 ge221_0)
                    clear hva_ hvn_ hvc_ ge221_0 ul221_0
                    clear hcc221 hce221
                    have HR221_0 := Aside0.mk hi221_0
                    have HC221_0 := Aside0.mk hl221_0
                    clear hi221_0 hl221_0
                    replace p221 := eq_true p221
                    replace q221 := eq_true q221
                    refine start_ (n := 10) (S := fun w' => w'.cell? (ad220.add (x41_1).toNat) = some (.slice A220_0 (rd_L4 t214 x41_1).length c220_0) ∧ w'.cell? (ad221.add (x41_1).toNat) = some (.slice A221_0 (rd_L4 t217 x41_1).length c221_0)) (ds := []) #[false, false, false, false, false, false, false, false, false, false] (by kernel_rfl) rfl rfl ⟨hx220_0, hx221_0⟩ (fun hHeld => ?_); refine with_tabW enumerate_Less.tab10 enumerate_Less.bits10 (fun HT_ HW_ => ?_)
                    generalize wr.drew = w27 at HO_7 HO_8 BK210 BK211 HB HL220_0 HL221_0 HR220_0 HR221_0 hx220_0 hx221_0 hHeld ⊢
                    refine pure_ (i := 0) (N := some 44) (v := ?_) (a' := ?_) #[true, false, false, false, false, false, false, false, false, false] rfl rfl (any_of HT_.out (by kernel_rfl)) (fun _ _ _ h => h) (Or.inl ⟨by rfl, ?_⟩) ?_ ?_
                    rotate_left
                    · intro w'
                      go_simp
                      with_reducible rfl
                    rotate_left
                    · simp only [Act.put, List.setIfInBounds_toArray, List.set_cons_zero, List.set_cons_succ, i64_w, i32_w]
                      rfl
                    refine pure_ (i := 1) (N := some 45) (v := ?_) (a' := ?_) #[true, true, false, false, false, false, false, false, false, false] rfl rfl (any_of HT_.out (by kernel_rfl)) (fun _ _ _ h => h) (Or.inl ⟨by rfl, ?_⟩) ?_ ?_
                    rotate_left
                    · intro w'
                      go_simp
                      with_reducible rfl
                    rotate_left
                    · simp only [Act.put, List.setIfInBounds_toArray, List.set_cons_zero, List.set_cons_succ, i64_w, i32_w]
                      rfl
                    refine pure_ (i := 2) (N := some 46) (v := ?_) (a' := ?_) #[true, true, true, false, false, false, false, false, false, false] rfl rfl (any_of HT_.out (by kernel_rfl)) (fun _ _ _ h => h) (Or.inl ⟨by rfl, ?_⟩) ?_ ?_
                    rotate_left
                    · intro w'
                      go_simp
                      with_reducible rfl
                    rotate_left
                    · simp only [Act.put, List.setIfInBounds_toArray, List.set_cons_zero, List.set_cons_succ, i64_w, i32_w]
                      rfl
                    refine pure_ (i := 4) (N := some 48) (v := ?_) (a' := ?_) #[true, true, true, false, true, false, false, false, false, false] rfl rfl (any_of HT_.out (by kernel_rfl)) (fun _ _ _ h => h) (Or.inl ⟨by rfl, ?_⟩) ?_ ?_
                    rotate_left
                    · intro w'
                      go_simp
                      with_reducible rfl
                    rotate_left
                    · simp only [Act.put, List.setIfInBounds_toArray, List.set_cons_zero, List.set_cons_succ, i64_w, i32_w]
                      rfl
                    refine pure_ (i := 5) (N := some 49) (v := ?_) (a' := ?_) #[true, true, true, false, true, true, false, false, false, false] rfl rfl (any_of HT_.out (by kernel_rfl)) (fun _ _ _ h => h) (Or.inl ⟨by rfl, ?_⟩) ?_ ?_
                    rotate_left
                    · intro w'
                      go_simp
                      with_reducible rfl
                    rotate_left
                    · simp only [Act.put, List.setIfInBounds_toArray, List.set_cons_zero, List.set_cons_succ, i64_w, i32_w]
                      rfl
                    refine pure_ (i := 6) (N := some 50) (v := ?_) (a' := ?_) #[true, true, true, false, true, true, true, false, false, false] rfl rfl (any_of HT_.out (by kernel_rfl)) (fun _ _ _ h => h) (Or.inl ⟨by rfl, ?_⟩) ?_ ?_
                    rotate_left
                    · intro w'
                      go_simp
                      with_reducible rfl
                    rotate_left
                    · simp only [Act.put, List.setIfInBounds_toArray, List.set_cons_zero, List.set_cons_succ, i64_w, i32_w]
                      rfl
                    refine take_ (i := 3) (N := some 47) (v := ?_) (a' := ?_) #[true, true, true, true, true, true, true, false, false, false] rfl rfl (take_ofW HT_.out HW_.out (by kernel_rfl)) (fun _ _ _ h => h) (Or.inl ⟨by rfl, ?_⟩) hHeld ?_ ?_
                    rotate_left
                    · rintro w' ⟨s0, s1⟩
                      go_simp
                      with_reducible rfl
                    rotate_left
                    · simp only [Act.put, List.setIfInBounds_toArray, List.set_cons_zero, List.set_cons_succ, i64_w, i32_w]
                      rfl
                    refine take_ (i := 7) (N := some 51) (v := ?_) (a' := ?_) #[true, true, true, true, true, true, true, true, false, false] rfl rfl (take_ofW HT_.out HW_.out (by kernel_rfl)) (fun _ _ _ h => h) (Or.inl ⟨by rfl, ?_⟩) hHeld ?_ ?_
                    rotate_left
                    · rintro w' ⟨s0, s1⟩
                      go_simp
                      with_reducible rfl
                    rotate_left
                    · simp only [Act.put, List.setIfInBounds_toArray, List.set_cons_zero, List.set_cons_succ, i64_w, i32_w]
                      rfl
                    refine one_ (i := 8) (N := some 52) #[true, true, true, true, true, true, true, true, true, false] rfl rfl (one_of HT_.out (by kernel_rfl)) (by decide) (fun K hK => ?_)
                    refine goes_ Try.func39 (by kernel_rfl) rfl #[.slice A220_0 (rd_L4 t214 x41_1).length c220_0, .slice A221_0 (rd_L4 t217 x41_1).length c221_0] (by rfl) rfl rfl (by (try simp only [List.map_toArray, List.map_cons, List.map_nil]); first | done | rfl | (simp only [List.length_drop, List.length_take]; rfl)) ?_
                    with_reducible refine (enumerate_compare.calls k1 _ _ (rd_L4 t214 x41_1) _ _ (rd_L4 t217 x41_1) t222 _ ?side1 ?side2 ?side3 ?side4 A25.out).mono ?_
                    (case side1 => repeat (first | exact (by repeat (first | (with_reducible exact HR220_0.out) | (with_reducible refine Kd.C_alloc ?_ _) | (with_reducible refine Kd.C_drewN ?_ _) | (with_reducible refine Kd.C_drew ?_) | exact HR220_0.out)) | (with_reducible refine Kd.C_alloc ?_ _) | (with_reducible refine Kd.C_drewN ?_ _) | (with_reducible refine Kd.C_drew ?_)))
                    (case side2 => exact HC220_0.out)
                    (case side3 => repeat (first | exact (by repeat (first | (with_reducible exact HR221_0.out) | (with_reducible refine Kd.C_alloc ?_ _) | (with_reducible refine Kd.C_drewN ?_ _) | (with_reducible refine Kd.C_drew ?_) | exact HR221_0.out)) | (with_reducible refine Kd.C_alloc ?_ _) | (with_reducible refine Kd.C_drewN ?_ _) | (with_reducible refine Kd.C_drew ?_)))
                    (case side4 => exact HC221_0.out)
                    rintro e w' ⟨rfl, ⟨nd, rfl⟩⟩
                    refine ⟨_, rfl, ?_⟩
                    refine hK.out _ _ ⟨hHeld.1, hHeld.2⟩ (fun hHeld => ?_)
                    clear hK K
                    refine norm_ (a' := ?_) ?_ ?_
                    rotate_left
                    · show Act.put _ (some 52) _ = _
                      simp only [Act.put, List.setIfInBounds_toArray, List.set_cons_zero, List.set_cons_succ, i64_w, i32_w]
                      rfl
                    refine pure_ (i := 9) (N := some 10) (v := ?_) (a' := ?_) #[true, true, true, true, true, true, true, true, true, true] rfl rfl (any_of HT_.out (by kernel_rfl)) (fun _ _ _ h => h) (Or.inl ⟨by rfl, ?_⟩) ?_ ?_
                    rotate_left
                    · intro w'
                      go_simp
                      with_reducible rfl
                    rotate_left
                    · simp only [Act.put, List.setIfInBounds_toArray, List.set_cons_zero, List.set_cons_succ, i64_w, i32_w]
                      rfl
                    refine done_ (done_of HT_.out (by kernel_rfl)) ?_
                    try go_wp2
                    go_roundg k1
                    case measure => have := HK1.out; omega
                    case rel => exact ⟨(wrap64 (x41_1 + 1)), (by first | rfl | (simp; done) | (simp [*]; done)), H', ⟨by have := HK1.out; omega⟩, ⟨by (with_reducible repeat (first | apply Kd.N_alloc | apply Kd.N_drewN | apply Kd.N_drew)); exact HO_7.out⟩, ⟨by (with_reducible repeat (first | apply Kd.N_alloc | apply Kd.N_drewN | apply Kd.N_drew)); exact HO_8.out⟩, ⟨by (with_reducible repeat (first | refine blk_drewN ?_ _ | refine blk_drew ?_ | refine blk_alloc ?_ _)); exact BK210.out⟩, ⟨by (with_reducible repeat (first | refine blk_drewN ?_ _ | refine blk_drew ?_ | refine blk_alloc ?_ _)); exact BK211.out⟩, ⟨by repeat (first | (with_reducible first | exact HB.out | apply below_alloc | apply pw_below_drewN | apply below_drew1 | refine below_set ?_ GE210.out | refine below_set ?_ GE211.out) | exact HB.out)⟩⟩
                  · rw [if_neg c26] at H
                    have c26b0 : (t222 == 0) = false := beq_eq_false_iff_ne.mpr c26
                    have c26b1 : (t222 != 0) = true := bne_iff_ne.mpr c26
                    obtain rfl := Option.some.inj H
                    try go_wp2
                    have n0_ := Aside0.mk (Kd.N_drew HO_7.out)
                    have n1_ := Aside0.mk (Kd.N_drew HO_8.out)
                    have n2_ := Aside0.mk (blk_drew BK210.out)
                    have n3_ := Aside0.mk (blk_drew BK211.out)
                    have n4_ := Aside0.mk (below_drew1 HB.out)
                    clear HO_7
                    clear HO_8
                    clear BK210
                    clear BK211
                    clear HB
                    have HO_7 := n0_
                    have HO_8 := n1_
                    have BK210 := n2_
                    have BK211 := n3_
                    have HB := n4_
                    clear n0_ n1_ n2_ n3_ n4_
                    have p220 : 0 ≤ (x41_1 : Int) := of_decide_eq_true (by first | (with_reducible assumption) | assumption)
                    have q220 : x41_1 < (t214.length : Int) := of_decide_eq_true (by first | (with_reducible assumption) | assumption)
                    obtain ⟨ad220, A220_0, c220_0, e220, hx220_0, hl220_0, hi220_0⟩ := at_L4 (Kd.N_reads' HO_7.out).2.2 x41_1 p220 q220
                    cases e220
                    obtain ⟨ce220, hce220, hMe220, hcc220⟩ := Kd.N_get HO_7.out [] x41_1 p220 (by first | exact q220 | exact of_decide_eq_true (by first | (with_reducible assumption) | assumption) | (have e_ := (Kd.N_reads' HO_7.out).1; omega))
                    obtain ⟨ua220_0, uc220_0, rfl, ul220_0, ge220_0⟩ := Kd.FK_slice_open hMe220
                    have hv220_0 := hcc220 0 _ rfl
                    rw [Nat.add_zero, show ((Kd.slice 3 (Kd.int .i64))).sz = 1 from rfl, Nat.mul_one] at hv220_0
                    replace hv220_0 := Option.some.inj (hv220_0.symm.trans hx220_0)
                    injection hv220_0 with hva_ hvn_ hvc_
                    rw [hva_] at ge220_0
                    rw [hvc_] at ul220_0
                    have HL220_0 := Aside0.mk (show Kd.V (Kd.int .i64) 3 _ w.heap.size _ _ (rd_L4 t214 x41_1) from Kd.V_mk ul220_0 ge220_0)
                    clear hva_ hvn_ hvc_ ge220_0 ul220_0
                    clear hcc220 hce220
                    have HR220_0 := Aside0.mk hi220_0
                    have HC220_0 := Aside0.mk hl220_0
                    clear hi220_0 hl220_0
                    replace p220 := eq_true p220
                    replace q220 := eq_true q220
                    obtain ⟨Ao30, co30, eo30⟩ := Kd.N_slice HO_8.out
                    (first | subst eo30 | (injection eo30 with f1_ f2_ f3_; have f4_ := f1_.symm; have f5_ := f3_.symm; clear f1_ f2_ f3_; subst f4_; subst f5_))
                    have p221 : 0 ≤ (x41_1 : Int) := of_decide_eq_true (by first | (with_reducible assumption) | assumption)
                    have q221 : x41_1 < (t217.length : Int) := of_decide_eq_true (by first | (with_reducible assumption) | assumption)
                    obtain ⟨ad221, A221_0, c221_0, e221, hx221_0, hl221_0, hi221_0⟩ := at_L4 (Kd.N_reads' HO_8.out).2.2 x41_1 p221 q221
                    cases e221
                    obtain ⟨ce221, hce221, hMe221, hcc221⟩ := Kd.N_get HO_8.out [] x41_1 p221 (by first | exact q221 | exact of_decide_eq_true (by first | (with_reducible assumption) | assumption) | (have e_ := (Kd.N_reads' HO_8.out).1; omega))
                    obtain ⟨ua221_0, uc221_0, rfl, ul221_0, ge221_0⟩ := Kd.FK_slice_open hMe221
                    have hv221_0 := hcc221 0 _ rfl
                    rw [Nat.add_zero, show ((Kd.slice 3 (Kd.int .i64))).sz = 1 from rfl, Nat.mul_one] at hv221_0
                    replace hv221_0 := Option.some.inj (hv221_0.symm.trans hx221_0)
                    injection hv221_0 with hva_ hvn_ hvc_
                    rw [hva_] at ge221_0
                    rw [hvc_] at ul221_0
                    have HL221_0 := Aside0.mk (show Kd.V (Kd.int .i64) 3 _ w.heap.size _ _ (rd_L4 t217 x41_1) from Kd.V_mk ul221_0 ge221_0)
                    clear hva_ hvn_ hvc_ ge221_0 ul221_0
                    clear hcc221 hce221
                    have HR221_0 := Aside0.mk hi221_0
                    have HC221_0 := Aside0.mk hl221_0
                    clear hi221_0 hl221_0
                    replace p221 := eq_true p221
                    replace q221 := eq_true q221
                    refine start_ (n := 10) (S := fun w' => w'.cell? (ad220.add (x41_1).toNat) = some (.slice A220_0 (rd_L4 t214 x41_1).length c220_0) ∧ w'.cell? (ad221.add (x41_1).toNat) = some (.slice A221_0 (rd_L4 t217 x41_1).length c221_0)) (ds := []) #[false, false, false, false, false, false, false, false, false, false] (by kernel_rfl) rfl rfl ⟨hx220_0, hx221_0⟩ (fun hHeld => ?_); refine with_tabW enumerate_Less.tab10 enumerate_Less.bits10 (fun HT_ HW_ => ?_)
                    generalize wr.drew = w29 at HO_7 HO_8 BK210 BK211 HB HL220_0 HL221_0 HR220_0 HR221_0 hx220_0 hx221_0 hHeld ⊢
                    refine pure_ (i := 0) (N := some 44) (v := ?_) (a' := ?_) #[true, false, false, false, false, false, false, false, false, false] rfl rfl (any_of HT_.out (by kernel_rfl)) (fun _ _ _ h => h) (Or.inl ⟨by rfl, ?_⟩) ?_ ?_
                    rotate_left
                    · intro w'
                      go_simp
                      with_reducible rfl
                    rotate_left
                    · simp only [Act.put, List.setIfInBounds_toArray, List.set_cons_zero, List.set_cons_succ, i64_w, i32_w]
                      rfl
                    refine pure_ (i := 1) (N := some 45) (v := ?_) (a' := ?_) #[true, true, false, false, false, false, false, false, false, false] rfl rfl (any_of HT_.out (by kernel_rfl)) (fun _ _ _ h => h) (Or.inl ⟨by rfl, ?_⟩) ?_ ?_
                    rotate_left
                    · intro w'
                      go_simp
                      with_reducible rfl
                    rotate_left
                    · simp only [Act.put, List.setIfInBounds_toArray, List.set_cons_zero, List.set_cons_succ, i64_w, i32_w]
                      rfl
                    refine pure_ (i := 2) (N := some 46) (v := ?_) (a' := ?_) #[true, true, true, false, false, false, false, false, false, false] rfl rfl (any_of HT_.out (by kernel_rfl)) (fun _ _ _ h => h) (Or.inl ⟨by rfl, ?_⟩) ?_ ?_
                    rotate_left
                    · intro w'
                      go_simp
                      with_reducible rfl
                    rotate_left
                    · simp only [Act.put, List.setIfInBounds_toArray, List.set_cons_zero, List.set_cons_succ, i64_w, i32_w]
                      rfl
                    refine pure_ (i := 4) (N := some 48) (v := ?_) (a' := ?_) #[true, true, true, false, true, false, false, false, false, false] rfl rfl (any_of HT_.out (by kernel_rfl)) (fun _ _ _ h => h) (Or.inl ⟨by rfl, ?_⟩) ?_ ?_
                    rotate_left
                    · intro w'
                      go_simp
                      with_reducible rfl
                    rotate_left
                    · simp only [Act.put, List.setIfInBounds_toArray, List.set_cons_zero, List.set_cons_succ, i64_w, i32_w]
                      rfl
                    refine pure_ (i := 5) (N := some 49) (v := ?_) (a' := ?_) #[true, true, true, false, true, true, false, false, false, false] rfl rfl (any_of HT_.out (by kernel_rfl)) (fun _ _ _ h => h) (Or.inl ⟨by rfl, ?_⟩) ?_ ?_
                    rotate_left
                    · intro w'
                      go_simp
                      with_reducible rfl
                    rotate_left
                    · simp only [Act.put, List.setIfInBounds_toArray, List.set_cons_zero, List.set_cons_succ, i64_w, i32_w]
                      rfl
                    refine pure_ (i := 6) (N := some 50) (v := ?_) (a' := ?_) #[true, true, true, false, true, true, true, false, false, false] rfl rfl (any_of HT_.out (by kernel_rfl)) (fun _ _ _ h => h) (Or.inl ⟨by rfl, ?_⟩) ?_ ?_
                    rotate_left
                    · intro w'
                      go_simp
                      with_reducible rfl
                    rotate_left
                    · simp only [Act.put, List.setIfInBounds_toArray, List.set_cons_zero, List.set_cons_succ, i64_w, i32_w]
                      rfl
                    refine take_ (i := 3) (N := some 47) (v := ?_) (a' := ?_) #[true, true, true, true, true, true, true, false, false, false] rfl rfl (take_ofW HT_.out HW_.out (by kernel_rfl)) (fun _ _ _ h => h) (Or.inl ⟨by rfl, ?_⟩) hHeld ?_ ?_
                    rotate_left
                    · rintro w' ⟨s0, s1⟩
                      go_simp
                      with_reducible rfl
                    rotate_left
                    · simp only [Act.put, List.setIfInBounds_toArray, List.set_cons_zero, List.set_cons_succ, i64_w, i32_w]
                      rfl
                    refine take_ (i := 7) (N := some 51) (v := ?_) (a' := ?_) #[true, true, true, true, true, true, true, true, false, false] rfl rfl (take_ofW HT_.out HW_.out (by kernel_rfl)) (fun _ _ _ h => h) (Or.inl ⟨by rfl, ?_⟩) hHeld ?_ ?_
                    rotate_left
                    · rintro w' ⟨s0, s1⟩
                      go_simp
                      with_reducible rfl
                    rotate_left
                    · simp only [Act.put, List.setIfInBounds_toArray, List.set_cons_zero, List.set_cons_succ, i64_w, i32_w]
                      rfl
                    refine one_ (i := 8) (N := some 52) #[true, true, true, true, true, true, true, true, true, false] rfl rfl (one_of HT_.out (by kernel_rfl)) (by decide) (fun K hK => ?_)
                    refine goes_ Try.func39 (by kernel_rfl) rfl #[.slice A220_0 (rd_L4 t214 x41_1).length c220_0, .slice A221_0 (rd_L4 t217 x41_1).length c221_0] (by rfl) rfl rfl (by (try simp only [List.map_toArray, List.map_cons, List.map_nil]); first | done | rfl | (simp only [List.length_drop, List.length_take]; rfl)) ?_
                    with_reducible refine (enumerate_compare.calls k1 _ _ (rd_L4 t214 x41_1) _ _ (rd_L4 t217 x41_1) t222 _ ?side1 ?side2 ?side3 ?side4 A25.out).mono ?_
                    (case side1 => repeat (first | exact (by repeat (first | (with_reducible exact HR220_0.out) | (with_reducible refine Kd.C_alloc ?_ _) | (with_reducible refine Kd.C_drewN ?_ _) | (with_reducible refine Kd.C_drew ?_) | exact HR220_0.out)) | (with_reducible refine Kd.C_alloc ?_ _) | (with_reducible refine Kd.C_drewN ?_ _) | (with_reducible refine Kd.C_drew ?_)))
                    (case side2 => exact HC220_0.out)
                    (case side3 => repeat (first | exact (by repeat (first | (with_reducible exact HR221_0.out) | (with_reducible refine Kd.C_alloc ?_ _) | (with_reducible refine Kd.C_drewN ?_ _) | (with_reducible refine Kd.C_drew ?_) | exact HR221_0.out)) | (with_reducible refine Kd.C_alloc ?_ _) | (with_reducible refine Kd.C_drewN ?_ _) | (with_reducible refine Kd.C_drew ?_)))
                    (case side4 => exact HC221_0.out)
                    rintro e w' ⟨rfl, ⟨nd, rfl⟩⟩
                    refine ⟨_, rfl, ?_⟩
                    refine hK.out _ _ ⟨hHeld.1, hHeld.2⟩ (fun hHeld => ?_)
                    clear hK K
                    refine norm_ (a' := ?_) ?_ ?_
                    rotate_left
                    · show Act.put _ (some 52) _ = _
                      simp only [Act.put, List.setIfInBounds_toArray, List.set_cons_zero, List.set_cons_succ, i64_w, i32_w]
                      rfl
                    refine pure_ (i := 9) (N := some 10) (v := ?_) (a' := ?_) #[true, true, true, true, true, true, true, true, true, true] rfl rfl (any_of HT_.out (by kernel_rfl)) (fun _ _ _ h => h) (Or.inl ⟨by rfl, ?_⟩) ?_ ?_
                    rotate_left
                    · intro w'
                      go_simp
                      with_reducible rfl
                    rotate_left
                    · simp only [Act.put, List.setIfInBounds_toArray, List.set_cons_zero, List.set_cons_succ, i64_w, i32_w]
                      rfl
                    refine done_ (done_of HT_.out (by kernel_rfl)) ?_
                    try go_wp2
                    go_ret
                    exact ⟨by first | rfl | (simp [errW_none, errW_some] <;> rfl) | (simp [*, errW_none, errW_some] <;> rfl), by repeat (first | (with_reducible first | exact HB.out | apply below_alloc | apply pw_below_drewN | apply below_drew1 | refine below_set ?_ GE210.out | refine below_set ?_ GE211.out) | exact HB.out)⟩
                · rw [if_neg c24] at H
                  exact absurd H (by simp)
              · rw [if_neg c23] at H
                exact absurd H (by simp)
            · rw [if_neg c22] at H
              exact absurd H (by simp)
          · rw [if_neg c21] at H
            have c21b0 : decide (x41_1 < (t214.length : Int)) = false := decide_eq_false c21
            clear c21
            obtain rfl := Option.some.inj H
            go_wp2
            go_ret
            exact ⟨by first | rfl | (simp [errW_none, errW_some] <;> rfl) | (simp [*, errW_none, errW_some] <;> rfl), by repeat (first | (with_reducible first | exact HB.out | apply below_alloc | apply pw_below_drewN | apply below_drew1 | refine below_set ?_ GE210.out | refine below_set ?_ GE211.out) | exact HB.out)⟩
    · rw [if_neg c6] at H
      have c6b0 : ((l0_0.length : Int) == (l1_0.length : Int)) = false := beq_eq_false_iff_ne.mpr c6
      have c6b1 : ((l0_0.length : Int) != (l1_0.length : Int)) = true := bne_iff_ne.mpr c6
      have c6b2 : (l0_0.length == l1_0.length) = false := by first | simpa using c6 | (simp at c6 ⊢; omega)
      obtain rfl := Option.some.inj H
      go_enter Try.func24, Try.ntmps24
      try go_wp2_with (first | ((with_reducible refine gate_dst (N := 2) rfl ?_); refine box_event ?hg (N := 2) ?hd (cs := #[.slice A0_0 l0_0.length c0_0, .slice A0_1 l0_1.length c0_1, .slice A0_2 l0_2.length c0_2]) (t := 35) ?hr ?_; (case hd => rfl); (case hg => rfl); (case hr => first | (go_simp; done) | (go_simp; rfl)); intro gb210 hg w31 hbox hb; have n0_ := Aside0.mk (below_step (by repeat (first | (with_reducible first | exact HB.out | apply below_alloc | apply pw_below_drewN | apply below_drew1) | exact HB.out)) hb); have n1_ := Aside0.mk (hbox); have n2_ := Aside0.mk ((by rw [hg]; exact (below_size (by repeat (first | (with_reducible first | exact HB.out | apply below_alloc | apply pw_below_drewN | apply below_drew1) | exact HB.out))) : w.heap.size ≤ gb210)); have n3_ := Aside0.mk ((by rw [hg]; exact (below_size (by repeat (first | (with_reducible first | exact HB.out | apply below_alloc | apply pw_below_drewN | apply below_drew1) | exact HB.out))) : w.heap.size ≤ gb210)); clear HB; have HB := n0_; have BK210 := n1_; have GW210 := n2_; have GE210 := n3_; clear n0_ n1_ n2_ n3_; clear hb hbox hg) | ((with_reducible refine gate_dst (N := 3) rfl ?_); refine box_event ?hg (N := 3) ?hd (cs := #[.slice A1_0 l1_0.length c1_0, .slice A1_1 l1_1.length c1_1, .slice A1_2 l1_2.length c1_2]) (t := 35) ?hr ?_; (case hd => rfl); (case hg => rfl); (case hr => first | (go_simp; done) | (go_simp; rfl)); intro gb211 hg w32 hbox hb; have n0_ := Aside0.mk (blk_below (g := gb210) (o := .cells #[.slice A0_0 l0_0.length c0_0, .slice A0_1 l0_1.length c0_1, .slice A0_2 l0_2.length c0_2] 35 (0, 0)) (by (with_reducible repeat (first | refine blk_drewN ?_ _ | refine blk_drew ?_ | refine blk_alloc ?_ _)); exact BK210.out) hb); have n1_ := Aside0.mk (below_step (by repeat (first | (with_reducible first | exact HB.out | apply below_alloc | apply pw_below_drewN | apply below_drew1 | refine below_set ?_ GE210.out) | exact HB.out)) hb); have n2_ := Aside0.mk (hbox); have n3_ := Aside0.mk ((by rw [hg]; exact (below_size (by repeat (first | (with_reducible first | exact HB.out | apply below_alloc | apply pw_below_drewN | apply below_drew1 | refine below_set ?_ GE210.out) | exact HB.out))) : w.heap.size ≤ gb211)); have n4_ := Aside0.mk ((by rw [hg]; exact (below_size (by repeat (first | (with_reducible first | exact HB.out | apply below_alloc | apply pw_below_drewN | apply below_drew1 | refine below_set ?_ GE210.out) | exact HB.out))) : w.heap.size ≤ gb211)); have n5_ := Aside0.mk ((by rw [hg]; exact Nat.ne_of_lt (blk_lt (g := gb210) (o := .cells #[.slice A0_0 l0_0.length c0_0, .slice A0_1 l0_1.length c0_1, .slice A0_2 l0_2.length c0_2] 35 (0, 0)) (by (with_reducible repeat (first | refine blk_drewN ?_ _ | refine blk_drew ?_ | refine blk_alloc ?_ _)); exact BK210.out)) : gb210 ≠ gb211)); have n6_ := Aside0.mk ((by rw [hg]; exact Nat.ne_of_gt (blk_lt (g := gb210) (o := .cells #[.slice A0_0 l0_0.length c0_0, .slice A0_1 l0_1.length c0_1, .slice A0_2 l0_2.length c0_2] 35 (0, 0)) (by (with_reducible repeat (first | refine blk_drewN ?_ _ | refine blk_drew ?_ | refine blk_alloc ?_ _)); exact BK210.out)) : gb211 ≠ gb210)); clear BK210; clear HB; have BK210 := n0_; have HB := n1_; have BK211 := n2_; have GW211 := n3_; have GE211 := n4_; have NB210_211 := n5_; have NB211_210 := n6_; clear n0_ n1_ n2_ n3_ n4_ n5_ n6_; clear hb hbox hg))
      have n0_ := Aside0.mk (blk_drew BK210.out)
      have n1_ := Aside0.mk (blk_drew BK211.out)
      have n2_ := Aside0.mk (below_drew1 HB.out)
      clear BK210
      clear BK211
      clear HB
      have BK210 := n0_
      have BK211 := n1_
      have HB := n2_
      clear n0_ n1_ n2_
      refine start_ (n := 6) (S := fun w' => w'.cell? ⟨gb210, 0, none⟩ = some (.slice A0_0 l0_0.length c0_0) ∧ w'.cell? ⟨gb210, 1, none⟩ = some (.slice A0_1 l0_1.length c0_1) ∧ w'.cell? ⟨gb210, 2, none⟩ = some (.slice A0_2 l0_2.length c0_2) ∧ w'.cell? ⟨gb211, 0, none⟩ = some (.slice A1_0 l1_0.length c1_0) ∧ w'.cell? ⟨gb211, 1, none⟩ = some (.slice A1_1 l1_1.length c1_1) ∧ w'.cell? ⟨gb211, 2, none⟩ = some (.slice A1_2 l1_2.length c1_2)) (ds := []) #[false, false, false, false, false, false] (by kernel_rfl) rfl rfl ⟨(blk_cell BK210.out 0).trans rfl, (blk_cell BK210.out 1).trans rfl, (blk_cell BK210.out 2).trans rfl, (blk_cell BK211.out 0).trans rfl, (blk_cell BK211.out 1).trans rfl, (blk_cell BK211.out 2).trans rfl⟩ (fun hHeld => ?_)
      generalize w32.drew = w33 at BK210 BK211 HB hHeld ⊢
      refine take_ (i := 0) (N := some 11) (v := ?_) (a' := ?_) #[true, false, false, false, false, false] rfl rfl (by kernel_rfl) (fun _ _ _ h => h) (Or.inl ⟨by rfl, ?_⟩) hHeld ?_ ?_
      rotate_left
      · rintro w' ⟨s0, s1, s2, s3, s4, s5⟩
        go_simp
        with_reducible rfl
      rotate_left
      · simp only [Act.put, List.setIfInBounds_toArray, List.set_cons_zero, List.set_cons_succ, i64_w, i32_w]
        rfl
      refine take_ (i := 2) (N := some 13) (v := ?_) (a' := ?_) #[true, false, true, false, false, false] rfl rfl (by kernel_rfl) (fun _ _ _ h => h) (Or.inl ⟨by rfl, ?_⟩) hHeld ?_ ?_
      rotate_left
      · rintro w' ⟨s0, s1, s2, s3, s4, s5⟩
        go_simp
        with_reducible rfl
      rotate_left
      · simp only [Act.put, List.setIfInBounds_toArray, List.set_cons_zero, List.set_cons_succ, i64_w, i32_w]
        rfl
      refine one_ (i := 1) (N := some 12) #[true, true, true, false, false, false] rfl rfl (by kernel_rfl) (by decide) (fun K hK => ?_)
      refine goes_ Try.func20 (by kernel_rfl) rfl #[.agg #[.slice A0_0 l0_0.length c0_0, .slice A0_1 l0_1.length c0_1, .slice A0_2 l0_2.length c0_2]] (by rfl) rfl rfl (by (try simp only [List.map_toArray, List.map_cons, List.map_nil]); first | done | rfl | (simp only [List.length_drop, List.length_take]; rfl)) ?_
      with_reducible refine (enumerate_Weight.calls k _ _ l0_0 _ _ l0_1 _ _ l0_2 t212 _ ?side1 ?side2 ?side3 ?side4 ?side5 ?side6 A3.out).mono ?_
      (case side1 => repeat (first | exact (Kd.C_below HR0_0.out HB.out) | (with_reducible refine Kd.C_alloc ?_ _) | (with_reducible refine Kd.C_drewN ?_ _) | (with_reducible refine Kd.C_drew ?_)))
      (case side2 => exact HC0_0.out)
      (case side3 => repeat (first | exact (Kd.C_below HR0_1.out HB.out) | (with_reducible refine Kd.C_alloc ?_ _) | (with_reducible refine Kd.C_drewN ?_ _) | (with_reducible refine Kd.C_drew ?_)))
      (case side4 => exact HC0_1.out)
      (case side5 => repeat (first | exact (Kd.C_below HR0_2.out HB.out) | (with_reducible refine Kd.C_alloc ?_ _) | (with_reducible refine Kd.C_drewN ?_ _) | (with_reducible refine Kd.C_drew ?_)))
      (case side6 => exact HC0_2.out)
      rintro e w34 ⟨rfl, hb⟩
      refine ⟨_, rfl, ?_⟩
      have n0_ := Aside0.mk (blk_below (g := gb210) (o := .cells #[.slice A0_0 l0_0.length c0_0, .slice A0_1 l0_1.length c0_1, .slice A0_2 l0_2.length c0_2] 35 (0, 0)) (by (with_reducible repeat (first | refine blk_drewN ?_ _ | refine blk_drew ?_ | refine blk_alloc ?_ _)); exact BK210.out) hb)
      have n1_ := Aside0.mk (blk_below (g := gb211) (o := .cells #[.slice A1_0 l1_0.length c1_0, .slice A1_1 l1_1.length c1_1, .slice A1_2 l1_2.length c1_2] 35 (0, 0)) (by (with_reducible repeat (first | refine blk_drewN ?_ _ | refine blk_drew ?_ | refine blk_alloc ?_ _)); exact BK211.out) hb)
      have n2_ := Aside0.mk (below_step (by repeat (first | (with_reducible first | exact HB.out | apply below_alloc | apply pw_below_drewN | apply below_drew1 | refine below_set ?_ GE210.out | refine below_set ?_ GE211.out) | exact HB.out)) hb)
      clear BK210
      clear BK211
      clear HB
      have BK210 := n0_
      have BK211 := n1_
      have HB := n2_
      clear n0_ n1_ n2_
      (try clear hb)
      (try clear hb2)
      (try clear hk)
      (try clear hi)
      refine hK.out _ _ ⟨(blk_cell BK210.out 0).trans rfl, (blk_cell BK210.out 1).trans rfl, (blk_cell BK210.out 2).trans rfl, (blk_cell BK211.out 0).trans rfl, (blk_cell BK211.out 1).trans rfl, (blk_cell BK211.out 2).trans rfl⟩ (fun hHeld => ?_)
      clear hK K
      refine norm_ (a' := ?_) ?_ ?_
      rotate_left
      · show Act.put _ (some 12) _ = _
        simp only [Act.put, List.setIfInBounds_toArray, List.set_cons_zero, List.set_cons_succ, i64_w, i32_w]
        rfl
      refine one_ (i := 3) (N := some 14) #[true, true, true, true, false, false] rfl rfl (by kernel_rfl) (by decide) (fun K hK => ?_)
      refine goes_ Try.func20 (by kernel_rfl) rfl #[.agg #[.slice A1_0 l1_0.length c1_0, .slice A1_1 l1_1.length c1_1, .slice A1_2 l1_2.length c1_2]] (by rfl) rfl rfl (by (try simp only [List.map_toArray, List.map_cons, List.map_nil]); first | done | rfl | (simp only [List.length_drop, List.length_take]; rfl)) ?_
      with_reducible refine (enumerate_Weight.calls k _ _ l1_0 _ _ l1_1 _ _ l1_2 t213 _ ?side1 ?side2 ?side3 ?side4 ?side5 ?side6 A4.out).mono ?_
      (case side1 => repeat (first | exact (Kd.C_below HR1_0.out HB.out) | (with_reducible refine Kd.C_alloc ?_ _) | (with_reducible refine Kd.C_drewN ?_ _) | (with_reducible refine Kd.C_drew ?_)))
      (case side2 => exact HC1_0.out)
      (case side3 => repeat (first | exact (Kd.C_below HR1_1.out HB.out) | (with_reducible refine Kd.C_alloc ?_ _) | (with_reducible refine Kd.C_drewN ?_ _) | (with_reducible refine Kd.C_drew ?_)))
      (case side4 => exact HC1_1.out)
      (case side5 => repeat (first | exact (Kd.C_below HR1_2.out HB.out) | (with_reducible refine Kd.C_alloc ?_ _) | (with_reducible refine Kd.C_drewN ?_ _) | (with_reducible refine Kd.C_drew ?_)))
      (case side6 => exact HC1_2.out)
      rintro e w35 ⟨rfl, hb⟩
      refine ⟨_, rfl, ?_⟩
      have n0_ := Aside0.mk (blk_below (g := gb210) (o := .cells #[.slice A0_0 l0_0.length c0_0, .slice A0_1 l0_1.length c0_1, .slice A0_2 l0_2.length c0_2] 35 (0, 0)) (by (with_reducible repeat (first | refine blk_drewN ?_ _ | refine blk_drew ?_ | refine blk_alloc ?_ _)); exact BK210.out) hb)
      have n1_ := Aside0.mk (blk_below (g := gb211) (o := .cells #[.slice A1_0 l1_0.length c1_0, .slice A1_1 l1_1.length c1_1, .slice A1_2 l1_2.length c1_2] 35 (0, 0)) (by (with_reducible repeat (first | refine blk_drewN ?_ _ | refine blk_drew ?_ | refine blk_alloc ?_ _)); exact BK211.out) hb)
      have n2_ := Aside0.mk (below_step (by repeat (first | (with_reducible first | exact HB.out | apply below_alloc | apply pw_below_drewN | apply below_drew1 | refine below_set ?_ GE210.out | refine below_set ?_ GE211.out) | exact HB.out)) hb)
      clear BK210
      clear BK211
      clear HB
      have BK210 := n0_
      have BK211 := n1_
      have HB := n2_
      clear n0_ n1_ n2_
      (try clear hb)
      (try clear hb2)
      (try clear hk)
      (try clear hi)
      refine hK.out _ _ ⟨(blk_cell BK210.out 0).trans rfl, (blk_cell BK210.out 1).trans rfl, (blk_cell BK210.out 2).trans rfl, (blk_cell BK211.out 0).trans rfl, (blk_cell BK211.out 1).trans rfl, (blk_cell BK211.out 2).trans rfl⟩ (fun hHeld => ?_)
      clear hK K
      refine norm_ (a' := ?_) ?_ ?_
      rotate_left
      · show Act.put _ (some 14) _ = _
        simp only [Act.put, List.setIfInBounds_toArray, List.set_cons_zero, List.set_cons_succ, i64_w, i32_w]
        rfl
      refine pure_ (i := 4) (N := some 5) (v := ?_) (a' := ?_) #[true, true, true, true, true, false] rfl rfl (by kernel_rfl) (fun _ _ _ h => h) (Or.inl ⟨by rfl, ?_⟩) ?_ ?_
      rotate_left
      · intro w'
        go_simp
        with_reducible rfl
      rotate_left
      · simp only [Act.put, List.setIfInBounds_toArray, List.set_cons_zero, List.set_cons_succ, i64_w, i32_w]
        rfl
      refine pure_ (i := 5) (N := some 6) (v := ?_) (a' := ?_) #[true, true, true, true, true, true] rfl rfl (by kernel_rfl) (fun _ _ _ h => h) (Or.inl ⟨by rfl, ?_⟩) ?_ ?_
      rotate_left
      · intro w'
        go_simp
        with_reducible rfl
      rotate_left
      · simp only [Act.put, List.setIfInBounds_toArray, List.set_cons_zero, List.set_cons_succ, i64_w, i32_w]
        rfl
      refine done_ (by kernel_rfl) ?_
      have hnb36 := NB210_211.out
      have hnc36 := NB211_210.out
      have hcz37_0 : w35.cell? ⟨gb210, 0, none⟩ = some (.slice A0_0 l0_0.length c0_0) := (blk_cell BK210.out 0).trans rfl
      have hcz37_1 : w35.cell? ⟨gb210, 1, none⟩ = some (.slice A0_1 l0_1.length c0_1) := (blk_cell BK210.out 1).trans rfl
      have hcz37_2 : w35.cell? ⟨gb210, 2, none⟩ = some (.slice A0_2 l0_2.length c0_2) := (blk_cell BK210.out 2).trans rfl
      have hfz37_0 := blk_frozen BK210.out 0
      have hfz37_1 := blk_frozen BK210.out 1
      have hfz37_2 := blk_frozen BK210.out 2
      have hcz38_0 : w35.cell? ⟨gb211, 0, none⟩ = some (.slice A1_0 l1_0.length c1_0) := (blk_cell BK211.out 0).trans rfl
      have hcz38_1 : w35.cell? ⟨gb211, 1, none⟩ = some (.slice A1_1 l1_1.length c1_1) := (blk_cell BK211.out 1).trans rfl
      have hcz38_2 : w35.cell? ⟨gb211, 2, none⟩ = some (.slice A1_2 l1_2.length c1_2) := (blk_cell BK211.out 2).trans rfl
      have hfz38_0 := blk_frozen BK211.out 0
      have hfz38_1 := blk_frozen BK211.out 1
      have hfz38_2 := blk_frozen BK211.out 2
      try go_wp2
      go_ret
      exact ⟨by first | rfl | (simp [errW_none, errW_some] <;> rfl) | (simp [*, errW_none, errW_some] <;> rfl), by repeat (first | (with_reducible first | exact HB.out | apply below_alloc | apply pw_below_drewN | apply below_drew1 | refine below_set ?_ GE210.out | refine below_set ?_ GE211.out) | exact HB.out)⟩
  · rw [if_neg c5] at H
    have c5b0 : (t212 == t213) = false := beq_eq_false_iff_ne.mpr c5
    have c5b1 : (t212 != t213) = true := bne_iff_ne.mpr c5
    obtain rfl := Option.some.inj H
    go_enter Try.func24, Try.ntmps24
    try go_wp2_with (first | ((with_reducible refine gate_dst (N := 2) rfl ?_); refine box_event ?hg (N := 2) ?hd (cs := #[.slice A0_0 l0_0.length c0_0, .slice A0_1 l0_1.length c0_1, .slice A0_2 l0_2.length c0_2]) (t := 35) ?hr ?_; (case hd => rfl); (case hg => rfl); (case hr => first | (go_simp; done) | (go_simp; rfl)); intro gb210 hg w39 hbox hb; have n0_ := Aside0.mk (below_step (by repeat (first | (with_reducible first | exact HB.out | apply below_alloc | apply pw_below_drewN | apply below_drew1) | exact HB.out)) hb); have n1_ := Aside0.mk (hbox); have n2_ := Aside0.mk ((by rw [hg]; exact (below_size (by repeat (first | (with_reducible first | exact HB.out | apply below_alloc | apply pw_below_drewN | apply below_drew1) | exact HB.out))) : w.heap.size ≤ gb210)); have n3_ := Aside0.mk ((by rw [hg]; exact (below_size (by repeat (first | (with_reducible first | exact HB.out | apply below_alloc | apply pw_below_drewN | apply below_drew1) | exact HB.out))) : w.heap.size ≤ gb210)); clear HB; have HB := n0_; have BK210 := n1_; have GW210 := n2_; have GE210 := n3_; clear n0_ n1_ n2_ n3_; clear hb hbox hg) | ((with_reducible refine gate_dst (N := 3) rfl ?_); refine box_event ?hg (N := 3) ?hd (cs := #[.slice A1_0 l1_0.length c1_0, .slice A1_1 l1_1.length c1_1, .slice A1_2 l1_2.length c1_2]) (t := 35) ?hr ?_; (case hd => rfl); (case hg => rfl); (case hr => first | (go_simp; done) | (go_simp; rfl)); intro gb211 hg w40 hbox hb; have n0_ := Aside0.mk (blk_below (g := gb210) (o := .cells #[.slice A0_0 l0_0.length c0_0, .slice A0_1 l0_1.length c0_1, .slice A0_2 l0_2.length c0_2] 35 (0, 0)) (by (with_reducible repeat (first | refine blk_drewN ?_ _ | refine blk_drew ?_ | refine blk_alloc ?_ _)); exact BK210.out) hb); have n1_ := Aside0.mk (below_step (by repeat (first | (with_reducible first | exact HB.out | apply below_alloc | apply pw_below_drewN | apply below_drew1 | refine below_set ?_ GE210.out) | exact HB.out)) hb); have n2_ := Aside0.mk (hbox); have n3_ := Aside0.mk ((by rw [hg]; exact (below_size (by repeat (first | (with_reducible first | exact HB.out | apply below_alloc | apply pw_below_drewN | apply below_drew1 | refine below_set ?_ GE210.out) | exact HB.out))) : w.heap.size ≤ gb211)); have n4_ := Aside0.mk ((by rw [hg]; exact (below_size (by repeat (first | (with_reducible first | exact HB.out | apply below_alloc | apply pw_below_drewN | apply below_drew1 | refine below_set ?_ GE210.out) | exact HB.out))) : w.heap.size ≤ gb211)); have n5_ := Aside0.mk ((by rw [hg]; exact Nat.ne_of_lt (blk_lt (g := gb210) (o := .cells #[.slice A0_0 l0_0.length c0_0, .slice A0_1 l0_1.length c0_1, .slice A0_2 l0_2.length c0_2] 35 (0, 0)) (by (with_reducible repeat (first | refine blk_drewN ?_ _ | refine blk_drew ?_ | refine blk_alloc ?_ _)); exact BK210.out)) : gb210 ≠ gb211)); have n6_ := Aside0.mk ((by rw [hg]; exact Nat.ne_of_gt (blk_lt (g := gb210) (o := .cells #[.slice A0_0 l0_0.length c0_0, .slice A0_1 l0_1.length c0_1, .slice A0_2 l0_2.length c0_2] 35 (0, 0)) (by (with_reducible repeat (first | refine blk_drewN ?_ _ | refine blk_drew ?_ | refine blk_alloc ?_ _)); exact BK210.out)) : gb211 ≠ gb210)); clear BK210; clear HB; have BK210 := n0_; have HB := n1_; have BK211 := n2_; have GW211 := n3_; have GE211 := n4_; have NB210_211 := n5_; have NB211_210 := n6_; clear n0_ n1_ n2_ n3_ n4_ n5_ n6_; clear hb hbox hg))
    have n0_ := Aside0.mk (blk_drew BK210.out)
    have n1_ := Aside0.mk (blk_drew BK211.out)
    have n2_ := Aside0.mk (below_drew1 HB.out)
    clear BK210
    clear BK211
    clear HB
    have BK210 := n0_
    have BK211 := n1_
    have HB := n2_
    clear n0_ n1_ n2_
    refine start_ (n := 6) (S := fun w' => w'.cell? ⟨gb210, 0, none⟩ = some (.slice A0_0 l0_0.length c0_0) ∧ w'.cell? ⟨gb210, 1, none⟩ = some (.slice A0_1 l0_1.length c0_1) ∧ w'.cell? ⟨gb210, 2, none⟩ = some (.slice A0_2 l0_2.length c0_2) ∧ w'.cell? ⟨gb211, 0, none⟩ = some (.slice A1_0 l1_0.length c1_0) ∧ w'.cell? ⟨gb211, 1, none⟩ = some (.slice A1_1 l1_1.length c1_1) ∧ w'.cell? ⟨gb211, 2, none⟩ = some (.slice A1_2 l1_2.length c1_2)) (ds := []) #[false, false, false, false, false, false] (by kernel_rfl) rfl rfl ⟨(blk_cell BK210.out 0).trans rfl, (blk_cell BK210.out 1).trans rfl, (blk_cell BK210.out 2).trans rfl, (blk_cell BK211.out 0).trans rfl, (blk_cell BK211.out 1).trans rfl, (blk_cell BK211.out 2).trans rfl⟩ (fun hHeld => ?_)
    generalize w40.drew = w41 at BK210 BK211 HB hHeld ⊢
    refine take_ (i := 0) (N := some 11) (v := ?_) (a' := ?_) #[true, false, false, false, false, false] rfl rfl (by kernel_rfl) (fun _ _ _ h => h) (Or.inl ⟨by rfl, ?_⟩) hHeld ?_ ?_
    rotate_left
    · rintro w' ⟨s0, s1, s2, s3, s4, s5⟩
      go_simp
      with_reducible rfl
    rotate_left
    · simp only [Act.put, List.setIfInBounds_toArray, List.set_cons_zero, List.set_cons_succ, i64_w, i32_w]
      rfl
    refine take_ (i := 2) (N := some 13) (v := ?_) (a' := ?_) #[true, false, true, false, false, false] rfl rfl (by kernel_rfl) (fun _ _ _ h => h) (Or.inl ⟨by rfl, ?_⟩) hHeld ?_ ?_
    rotate_left
    · rintro w' ⟨s0, s1, s2, s3, s4, s5⟩
      go_simp
      with_reducible rfl
    rotate_left
    · simp only [Act.put, List.setIfInBounds_toArray, List.set_cons_zero, List.set_cons_succ, i64_w, i32_w]
      rfl
    refine one_ (i := 1) (N := some 12) #[true, true, true, false, false, false] rfl rfl (by kernel_rfl) (by decide) (fun K hK => ?_)
    refine goes_ Try.func20 (by kernel_rfl) rfl #[.agg #[.slice A0_0 l0_0.length c0_0, .slice A0_1 l0_1.length c0_1, .slice A0_2 l0_2.length c0_2]] (by rfl) rfl rfl (by (try simp only [List.map_toArray, List.map_cons, List.map_nil]); first | done | rfl | (simp only [List.length_drop, List.length_take]; rfl)) ?_
    with_reducible refine (enumerate_Weight.calls k _ _ l0_0 _ _ l0_1 _ _ l0_2 t212 _ ?side1 ?side2 ?side3 ?side4 ?side5 ?side6 A3.out).mono ?_
    (case side1 => repeat (first | exact (Kd.C_below HR0_0.out HB.out) | (with_reducible refine Kd.C_alloc ?_ _) | (with_reducible refine Kd.C_drewN ?_ _) | (with_reducible refine Kd.C_drew ?_)))
    (case side2 => exact HC0_0.out)
    (case side3 => repeat (first | exact (Kd.C_below HR0_1.out HB.out) | (with_reducible refine Kd.C_alloc ?_ _) | (with_reducible refine Kd.C_drewN ?_ _) | (with_reducible refine Kd.C_drew ?_)))
    (case side4 => exact HC0_1.out)
    (case side5 => repeat (first | exact (Kd.C_below HR0_2.out HB.out) | (with_reducible refine Kd.C_alloc ?_ _) | (with_reducible refine Kd.C_drewN ?_ _) | (with_reducible refine Kd.C_drew ?_)))
    (case side6 => exact HC0_2.out)
    rintro e w42 ⟨rfl, hb⟩
    refine ⟨_, rfl, ?_⟩
    have n0_ := Aside0.mk (blk_below (g := gb210) (o := .cells #[.slice A0_0 l0_0.length c0_0, .slice A0_1 l0_1.length c0_1, .slice A0_2 l0_2.length c0_2] 35 (0, 0)) (by (with_reducible repeat (first | refine blk_drewN ?_ _ | refine blk_drew ?_ | refine blk_alloc ?_ _)); exact BK210.out) hb)
    have n1_ := Aside0.mk (blk_below (g := gb211) (o := .cells #[.slice A1_0 l1_0.length c1_0, .slice A1_1 l1_1.length c1_1, .slice A1_2 l1_2.length c1_2] 35 (0, 0)) (by (with_reducible repeat (first | refine blk_drewN ?_ _ | refine blk_drew ?_ | refine blk_alloc ?_ _)); exact BK211.out) hb)
    have n2_ := Aside0.mk (below_step (by repeat (first | (with_reducible first | exact HB.out | apply below_alloc | apply pw_below_drewN | apply below_drew1 | refine below_set ?_ GE210.out | refine below_set ?_ GE211.out) | exact HB.out)) hb)
    clear BK210
    clear BK211
    clear HB
    have BK210 := n0_
    have BK211 := n1_
    have HB := n2_
    clear n0_ n1_ n2_
    (try clear hb)
    (try clear hb2)
    (try clear hk)
    (try clear hi)
    refine hK.out _ _ ⟨(blk_cell BK210.out 0).trans rfl, (blk_cell BK210.out 1).trans rfl, (blk_cell BK210.out 2).trans rfl, (blk_cell BK211.out 0).trans rfl, (blk_cell BK211.out 1).trans rfl, (blk_cell BK211.out 2).trans rfl⟩ (fun hHeld => ?_)
    clear hK K
    refine norm_ (a' := ?_) ?_ ?_
    rotate_left
    · show Act.put _ (some 12) _ = _
      simp only [Act.put, List.setIfInBounds_toArray, List.set_cons_zero, List.set_cons_succ, i64_w, i32_w]
      rfl
    refine one_ (i := 3) (N := some 14) #[true, true, true, true, false, false] rfl rfl (by kernel_rfl) (by decide) (fun K hK => ?_)
    refine goes_ Try.func20 (by kernel_rfl) rfl #[.agg #[.slice A1_0 l1_0.length c1_0, .slice A1_1 l1_1.length c1_1, .slice A1_2 l1_2.length c1_2]] (by rfl) rfl rfl (by (try simp only [List.map_toArray, List.map_cons, List.map_nil]); first | done | rfl | (simp only [List.length_drop, List.length_take]; rfl)) ?_
    with_reducible refine (enumerate_Weight.calls k _ _ l1_0 _ _ l1_1 _ _ l1_2 t213 _ ?side1 ?side2 ?side3 ?side4 ?side5 ?side6 A4.out).mono ?_
    (case side1 => repeat (first | exact (Kd.C_below HR1_0.out HB.out) | (with_reducible refine Kd.C_alloc ?_ _) | (with_reducible refine Kd.C_drewN ?_ _) | (with_reducible refine Kd.C_drew ?_)))
    (case side2 => exact HC1_0.out)
    (case side3 => repeat (first | exact (Kd.C_below HR1_1.out HB.out) | (with_reducible refine Kd.C_alloc ?_ _) | (with_reducible refine Kd.C_drewN ?_ _) | (with_reducible refine Kd.C_drew ?_)))
    (case side4 => exact HC1_1.out)
    (case side5 => repeat (first | exact (Kd.C_below HR1_2.out HB.out) | (with_reducible refine Kd.C_alloc ?_ _) | (with_reducible refine Kd.C_drewN ?_ _) | (with_reducible refine Kd.C_drew ?_)))
    (case side6 => exact HC1_2.out)
    rintro e w43 ⟨rfl, hb⟩
    refine ⟨_, rfl, ?_⟩
    have n0_ := Aside0.mk (blk_below (g := gb210) (o := .cells #[.slice A0_0 l0_0.length c0_0, .slice A0_1 l0_1.length c0_1, .slice A0_2 l0_2.length c0_2] 35 (0, 0)) (by (with_reducible repeat (first | refine blk_drewN ?_ _ | refine blk_drew ?_ | refine blk_alloc ?_ _)); exact BK210.out) hb)
    have n1_ := Aside0.mk (blk_below (g := gb211) (o := .cells #[.slice A1_0 l1_0.length c1_0, .slice A1_1 l1_1.length c1_1, .slice A1_2 l1_2.length c1_2] 35 (0, 0)) (by (with_reducible repeat (first | refine blk_drewN ?_ _ | refine blk_drew ?_ | refine blk_alloc ?_ _)); exact BK211.out) hb)
    have n2_ := Aside0.mk (below_step (by repeat (first | (with_reducible first | exact HB.out | apply below_alloc | apply pw_below_drewN | apply below_drew1 | refine below_set ?_ GE210.out | refine below_set ?_ GE211.out) | exact HB.out)) hb)
    clear BK210
    clear BK211
    clear HB
    have BK210 := n0_
    have BK211 := n1_
    have HB := n2_
    clear n0_ n1_ n2_
    (try clear hb)
    (try clear hb2)
    (try clear hk)
    (try clear hi)
    refine hK.out _ _ ⟨(blk_cell BK210.out 0).trans rfl, (blk_cell BK210.out 1).trans rfl, (blk_cell BK210.out 2).trans rfl, (blk_cell BK211.out 0).trans rfl, (blk_cell BK211.out 1).trans rfl, (blk_cell BK211.out 2).trans rfl⟩ (fun hHeld => ?_)
    clear hK K
    refine norm_ (a' := ?_) ?_ ?_
    rotate_left
    · show Act.put _ (some 14) _ = _
      simp only [Act.put, List.setIfInBounds_toArray, List.set_cons_zero, List.set_cons_succ, i64_w, i32_w]
      rfl
    refine pure_ (i := 4) (N := some 5) (v := ?_) (a' := ?_) #[true, true, true, true, true, false] rfl rfl (by kernel_rfl) (fun _ _ _ h => h) (Or.inl ⟨by rfl, ?_⟩) ?_ ?_
    rotate_left
    · intro w'
      go_simp
      with_reducible rfl
    rotate_left
    · simp only [Act.put, List.setIfInBounds_toArray, List.set_cons_zero, List.set_cons_succ, i64_w, i32_w]
      rfl
    refine pure_ (i := 5) (N := some 6) (v := ?_) (a' := ?_) #[true, true, true, true, true, true] rfl rfl (by kernel_rfl) (fun _ _ _ h => h) (Or.inl ⟨by rfl, ?_⟩) ?_ ?_
    rotate_left
    · intro w'
      go_simp
      with_reducible rfl
    rotate_left
    · simp only [Act.put, List.setIfInBounds_toArray, List.set_cons_zero, List.set_cons_succ, i64_w, i32_w]
      rfl
    refine done_ (by kernel_rfl) ?_
    try go_wp2
    go_ret
    exact ⟨by first | rfl | (simp [errW_none, errW_some] <;> rfl) | (simp [*, errW_none, errW_some] <;> rfl), by repeat (first | (with_reducible first | exact HB.out | apply below_alloc | apply pw_below_drewN | apply below_drew1 | refine below_set ?_ GE210.out | refine below_set ?_ GE211.out) | exact HB.out)⟩
end Go.Proofs.Ytgcdeablfoomhaa.PAll
end
section
set_option linter.unusedVariables false
set_option linter.unusedSimpArgs false
namespace Go.Proofs.Ytgcdeablfoomhaa.PAll
open Go.RowKit Go.Proofs.YtgcdeablfoomhaaW.PrintWords Go.Proofs.YtgcdeablfoomhaaW.PrintLast Go.Proofs.YtgcdeablfoomhaaW.PrintMore
def cmpR : List Int → List Int → Int
  | x :: xs, y :: ys => if x = y then cmpR xs ys else rankO x - rankO y
  | _, _ => 0
def cmpL (a b : List Int) : Int := if a.length = b.length then cmpR a b else (a.length : Int) - (b.length : Int)
def lessLs : List (List Int) → List (List Int) → Bool
  | l :: ls, m :: ms => if cmpL l m = 0 then lessLs ls ms else decide (cmpL l m < 0)
  | _, _ => false
/-- Which comes first: by weight w, number of cells n, lists L. -/
def lessT (w : Int) (n : Nat) (L : List (List Int)) (w' : Int) (n' : Nat) (L' : List (List Int)) : Bool :=
  if w = w' then (if n = n' then lessLs L L' else decide (n < n')) else decide (w < w')
theorem rankO_inj {x y : Int} (h : rankO x = rankO y) : x = y := by
  have := congrArg unrank h
  rwa [unrank_rankO, unrank_rankO] at this
theorem cmpR_neg : ∀ {a b : List Int}, a.length = b.length → cmpR b a = - cmpR a b
  | [], [], _ => rfl
  | x :: xs, y :: ys, h => by
    have ih := cmpR_neg (a := xs) (b := ys) (by simpa using h)
    unfold cmpR
    by_cases e : x = y
    · rw [if_pos e, if_pos e.symm, ih]
    · rw [if_neg e, if_neg (Ne.symm e)]; omega
theorem cmpR_zero : ∀ {a b : List Int}, a.length = b.length → cmpR a b = 0 → a = b
  | [], [], _, _ => rfl
  | x :: xs, y :: ys, h, h0 => by
    unfold cmpR at h0
    by_cases e : x = y
    · rw [if_pos e] at h0
      rw [e, cmpR_zero (by simpa using h) h0]
    · rw [if_neg e] at h0
      exact absurd (rankO_inj (by omega)) e
theorem cmpR_self : ∀ (a : List Int), cmpR a a = 0
  | [] => rfl
  | x :: xs => by unfold cmpR; rw [if_pos rfl]; exact cmpR_self xs
theorem cmpR_trans : ∀ {a b c : List Int}, a.length = b.length → b.length = c.length → cmpR a b < 0 → cmpR b c < 0 → cmpR a c < 0
  | [], [], [], _, _, h, _ => by simp [cmpR] at h
  | x :: xs, y :: ys, z :: zs, h1, h2, h3, h4 => by
    unfold cmpR at h3 h4 ⊢
    by_cases e1 : x = y
    · subst e1
      rw [if_pos rfl] at h3
      by_cases e2 : x = z
      · rw [if_pos e2] at h4 ⊢
        exact cmpR_trans (by simpa using h1) (by simpa using h2) h3 h4
      · rw [if_neg e2] at h4 ⊢
        exact h4
    · rw [if_neg e1] at h3
      by_cases e2 : y = z
      · subst e2
        rw [if_neg e1]; exact h3
      · rw [if_neg e2] at h4
        rw [if_neg (fun e => by subst e; omega)]
        omega
theorem cmpL_neg (a b : List Int) : cmpL b a = - cmpL a b := by
  unfold cmpL
  by_cases h : a.length = b.length
  · rw [if_pos h, if_pos h.symm, cmpR_neg h]
  · rw [if_neg h, if_neg (Ne.symm h)]; omega
theorem cmpL_zero {a b : List Int} (h : cmpL a b = 0) : a = b := by
  unfold cmpL at h
  by_cases e : a.length = b.length
  · rw [if_pos e] at h; exact cmpR_zero e h
  · rw [if_neg e] at h; omega
theorem cmpL_self (a : List Int) : cmpL a a = 0 := by unfold cmpL; rw [if_pos rfl]; exact cmpR_self a
theorem cmpL_trans {a b c : List Int} (h1 : cmpL a b < 0) (h2 : cmpL b c < 0) : cmpL a c < 0 := by
  unfold cmpL at *
  by_cases e1 : a.length = b.length
  · rw [if_pos e1] at h1
    by_cases e2 : b.length = c.length
    · rw [if_pos e2] at h2
      rw [if_pos (e1.trans e2)]
      exact cmpR_trans e1 e2 h1 h2
    · rw [if_neg e2] at h2
      rw [if_neg (by omega)]; omega
  · rw [if_neg e1] at h1
    by_cases e2 : b.length = c.length
    · rw [if_neg (by omega)]; omega
    · rw [if_neg e2] at h2
      rw [if_neg (by omega)]; omega
theorem lessLs_self : ∀ (L : List (List Int)), lessLs L L = false
  | [] => rfl
  | l :: ls => by unfold lessLs; rw [if_pos (cmpL_self l)]; exact lessLs_self ls
theorem lessLs_asymm : ∀ {L M : List (List Int)}, lessLs L M = true → lessLs M L = false
  | [], _, h => by unfold lessLs at h; exact absurd h (by simp)
  | _ :: _, [], h => by unfold lessLs at h; exact absurd h (by simp)
  | l :: ls, m :: ms, h => by
    unfold lessLs at h ⊢
    rw [cmpL_neg l m]
    by_cases e : cmpL l m = 0
    · rw [if_pos e] at h
      rw [if_pos (by omega)]
      exact lessLs_asymm h
    · rw [if_neg e] at h
      rw [if_neg (by omega)]
      have := of_decide_eq_true h
      exact decide_eq_false (by omega)
theorem lessLs_total : ∀ {L M : List (List Int)}, L.length = M.length → lessLs L M = false → lessLs M L = false → L = M
  | [], [], _, _, _ => rfl
  | l :: ls, m :: ms, hl, h1, h2 => by
    unfold lessLs at h1 h2
    rw [cmpL_neg l m] at h2
    by_cases e : cmpL l m = 0
    · rw [if_pos e] at h1
      rw [if_pos (by omega)] at h2
      rw [cmpL_zero e, lessLs_total (by simpa using hl) h1 h2]
    · rw [if_neg e] at h1
      rw [if_neg (by omega)] at h2
      have h3 := of_decide_eq_false h1
      have h4 := of_decide_eq_false h2
      omega
theorem lessLs_trans : ∀ {L M N : List (List Int)}, lessLs L M = true → lessLs M N = true → lessLs L N = true
  | [], _, _, h, _ => by unfold lessLs at h; exact absurd h (by simp)
  | _ :: _, [], _, h, _ => by unfold lessLs at h; exact absurd h (by simp)
  | _ :: _, _ :: _, [], _, h => by unfold lessLs at h; exact absurd h (by simp)
  | l :: ls, m :: ms, n :: ns, h1, h2 => by
    unfold lessLs at h1 h2 ⊢
    by_cases e1 : cmpL l m = 0
    · rw [if_pos e1] at h1
      rw [cmpL_zero e1]
      by_cases e2 : cmpL m n = 0
      · rw [if_pos e2] at h2 ⊢
        exact lessLs_trans h1 h2
      · rw [if_neg e2] at h2 ⊢
        exact h2
    · rw [if_neg e1] at h1
      by_cases e2 : cmpL m n = 0
      · rw [← cmpL_zero e2, if_neg e1]; exact h1
      · rw [if_neg e2] at h2
        have h3 := cmpL_trans (of_decide_eq_true h1) (of_decide_eq_true h2)
        rw [if_neg (by omega)]
        exact decide_eq_true h3
theorem lessT_self (w : Int) (n : Nat) (L : List (List Int)) : lessT w n L w n L = false := by unfold lessT; rw [if_pos rfl, if_pos rfl]; exact lessLs_self L
theorem lessT_asymm {w w' : Int} {n n' : Nat} {L L' : List (List Int)} (h : lessT w n L w' n' L' = true) : lessT w' n' L' w n L = false := by
  unfold lessT at *
  by_cases e : w = w'
  · rw [if_pos e] at h
    rw [if_pos e.symm]
    by_cases e2 : n = n'
    · rw [if_pos e2] at h
      rw [if_pos e2.symm]
      exact lessLs_asymm h
    · rw [if_neg e2] at h
      rw [if_neg (Ne.symm e2)]
      have := of_decide_eq_true h
      exact decide_eq_false (by omega)
  · rw [if_neg e] at h
    rw [if_neg (Ne.symm e)]
    have := of_decide_eq_true h
    exact decide_eq_false (by omega)
theorem lessT_total {w w' : Int} {n n' : Nat} {L L' : List (List Int)} (hl : n = n' → L.length = L'.length) (h1 : lessT w n L w' n' L' = false) (h2 : lessT w' n' L' w n L = false) : n = n' ∧ L = L' := by
  unfold lessT at *
  by_cases e : w = w'
  · rw [if_pos e] at h1
    rw [if_pos e.symm] at h2
    by_cases e2 : n = n'
    · rw [if_pos e2] at h1
      rw [if_pos e2.symm] at h2
      exact ⟨e2, lessLs_total (hl e2) h1 h2⟩
    · rw [if_neg e2] at h1
      rw [if_neg (Ne.symm e2)] at h2
      have h3 := of_decide_eq_false h1
      have h4 := of_decide_eq_false h2
      omega
  · rw [if_neg e] at h1
    rw [if_neg (Ne.symm e)] at h2
    have h3 := of_decide_eq_false h1
    have h4 := of_decide_eq_false h2
    omega
theorem lessT_trans {w w' w'' : Int} {n n' n'' : Nat} {L L' L'' : List (List Int)} (h1 : lessT w n L w' n' L' = true) (h2 : lessT w' n' L' w'' n'' L'' = true) : lessT w n L w'' n'' L'' = true := by
  unfold lessT at *
  by_cases e1 : w = w'
  · rw [if_pos e1] at h1
    by_cases e2 : w' = w''
    · rw [if_pos e2] at h2
      rw [if_pos (e1.trans e2)]
      by_cases f1 : n = n'
      · rw [if_pos f1] at h1
        by_cases f2 : n' = n''
        · rw [if_pos f2] at h2
          rw [if_pos (f1.trans f2)]
          exact lessLs_trans h1 h2
        · rw [if_neg f2] at h2
          rw [if_neg (by omega), f1]; exact h2
      · rw [if_neg f1] at h1
        have := of_decide_eq_true h1
        by_cases f2 : n' = n''
        · rw [if_neg (by omega)]; exact decide_eq_true (by omega)
        · rw [if_neg f2] at h2
          have := of_decide_eq_true h2
          rw [if_neg (by omega)]; exact decide_eq_true (by omega)
    · rw [if_neg e2] at h2
      rw [if_neg (by omega), e1]; exact h2
  · rw [if_neg e1] at h1
    have := of_decide_eq_true h1
    by_cases e2 : w' = w''
    · rw [if_neg (by omega)]; exact decide_eq_true (by omega)
    · rw [if_neg e2] at h2
      have := of_decide_eq_true h2
      rw [if_neg (by omega)]; exact decide_eq_true (by omega)
theorem compare_l0 (a b : List Int) (hl : a.length = b.length) (ha : a.all inR = true) (hb : b.all inR = true) (hm : a.length ≤ 9223372036854775807) : ∀ (m j : Nat), j + m = a.length → ∃ k, enumerate_compare.l0 k a b (a.length : Int) (j : Int) = some (cmpR (a.drop j) (b.drop j))
  | 0, j, hj => ⟨1, by
    unfold enumerate_compare.l0
    rw [if_neg (by omega), List.drop_eq_nil_of_le (by omega), List.drop_eq_nil_of_le (by omega)]
    rfl⟩
  | m + 1, j, hj => by
    have h1 : j < a.length := by omega
    have h2 : j < b.length := by omega
    obtain ⟨k, hk⟩ := compare_l0 a b hl ha hb hm m (j + 1) (by omega)
    have hx := inR_iff.1 (List.all_eq_true.1 ha _ (List.getElem_mem h1))
    have hy := inR_iff.1 (List.all_eq_true.1 hb _ (List.getElem_mem h2))
    refine ⟨k + 1, ?_⟩
    unfold enumerate_compare.l0
    rw [if_pos (by omega), if_pos (by omega), if_pos (by omega), if_pos (by omega), rd_at h1, rd_at h2, List.drop_eq_getElem_cons h1, List.drop_eq_getElem_cons h2, cmpR]
    by_cases e : a[j] = b[j]
    · rw [if_pos e, if_pos e, wrap64_of' (by omega) (by omega), cast_succ, hk]
    · have r1 := rankO_ok hx.2 hx.1
      have r2 := rankO_ok hy.2 hy.1
      rw [if_neg e, if_neg e, rank_f hx.2 hx.1, rank_f hy.2 hy.1]
      simp only [Option.bind_some]
      rw [wrap64_of' (by omega) (by omega)]
theorem compare_f (a b : List Int) (ha : a.all inR = true) (hb : b.all inR = true) (hm : a.length ≤ 9223372036854775807) (hm2 : b.length ≤ 9223372036854775807) : ∃ k, enumerate_compare.f k a b = some (cmpL a b) := by
  unfold enumerate_compare.f cmpL
  by_cases e : a.length = b.length
  · obtain ⟨k, hk⟩ := compare_l0 a b e ha hb hm a.length 0 (by omega)
    refine ⟨k, ?_⟩
    rw [if_pos (by omega), if_pos e]
    simpa using hk
  · refine ⟨0, ?_⟩
    rw [if_neg (by omega), if_neg e, wrap64_of' (by omega) (by omega)]
theorem up_compare {a b : List Int} {r : Int} {k : Nat} (h : enumerate_compare.f k a b = some r) : ∀ d, enumerate_compare.f (k + d) a b = some r
  | 0 => h
  | d + 1 => enumerate_compare.mono _ _ _ _ (up_compare h d)
theorem up_less_l0 {L M : List (List Int)} {n i : Int} {r : Bool} {k : Nat} (h : enumerate_Less.l0 k L M n i = some r) : ∀ d, enumerate_Less.l0 (k + d) L M n i = some r
  | 0 => h
  | d + 1 => (enumerate_Less.mono_l _) _ _ _ _ _ (up_less_l0 h d)
theorem less_l0 (L M : List (List Int)) (hl : L.length = M.length) (hin : L.all (fun l => l.all inR) = true) (hin2 : M.all (fun l => l.all inR) = true) (hrl : ∀ l ∈ L, l.length ≤ 9223372036854775807) (hrl2 : ∀ l ∈ M, l.length ≤ 9223372036854775807) (hll : L.length ≤ 9000000000000) :
    ∀ (m i : Nat), i + m = L.length → ∃ k, enumerate_Less.l0 k L M (L.length : Int) (i : Int) = some (lessLs (L.drop i) (M.drop i))
  | 0, i, hi => ⟨1, by
    unfold enumerate_Less.l0
    rw [if_neg (by omega), List.drop_eq_nil_of_le (by omega), List.drop_eq_nil_of_le (by omega)]
    rfl⟩
  | m + 1, i, hi => by
    have h1 : i < L.length := by omega
    have h2 : i < M.length := by omega
    have m1 := List.getElem_mem h1
    have m2 := List.getElem_mem h2
    obtain ⟨k1, hk1⟩ := compare_f L[i] M[i] (List.all_eq_true.1 hin _ m1) (List.all_eq_true.1 hin2 _ m2) (hrl _ m1) (hrl2 _ m2)
    obtain ⟨k2, hk2⟩ := less_l0 L M hl hin hin2 hrl hrl2 hll m (i + 1) (by omega)
    refine ⟨k1 + k2 + 1, ?_⟩
    unfold enumerate_Less.l0
    rw [if_pos (by omega), if_pos (by omega), if_pos (by omega), if_pos (by omega), rdL_at h1, rdL_at h2, up_compare hk1 k2, List.drop_eq_getElem_cons h1, List.drop_eq_getElem_cons h2, lessLs]
    simp only [Option.bind_some]
    by_cases e : cmpL L[i] M[i] = 0
    · rw [if_pos e, if_pos e, wrap64_of' (by omega) (by omega), cast_succ, Nat.add_comm k1 k2, up_less_l0 hk2 k1]
    · rw [if_neg e, if_neg e]
theorem up_weight {l0 : List (List Int)} {l1 l2 : List Int} {r : Int} {k : Nat} (h : enumerate_Weight.f k l0 l1 l2 = some r) : ∀ d, enumerate_Weight.f (k + d) l0 l1 l2 = some r
  | 0 => h
  | d + 1 => enumerate_Weight.mono _ _ _ _ _ (up_weight h d)
theorem less_f (l0 : List (List Int)) (l1 l2 : List Int) (m0 : List (List Int)) (m1 m2 : List Int) (h : l0.length ≤ 5864062014634) (h' : m0.length ≤ 5864062014634) (hin : (l0 ++ [l1, l2]).all (fun l => l.all inR) = true) (hin2 : (m0 ++ [m1, m2]).all (fun l => l.all inR) = true)
    (hrl : ∀ l ∈ l0 ++ [l1, l2], l.length ≤ 9223372036854775807) (hrl2 : ∀ l ∈ m0 ++ [m1, m2], l.length ≤ 9223372036854775807) :
    ∃ k, enumerate_Less.f k l0 l1 l2 m0 m1 m2 = some (lessT (wtW 0 (l0 ++ [l1, l2])) l0.length (l0 ++ [l1, l2]) (wtW 0 (m0 ++ [m1, m2])) m0.length (m0 ++ [m1, m2])) := by
  obtain ⟨k1, hk1⟩ := weight_f l0 l1 l2 h hin hrl
  obtain ⟨k2, hk2⟩ := weight_f m0 m1 m2 h' hin2 hrl2
  unfold enumerate_Less.f lessT
  by_cases e : wtW 0 (l0 ++ [l1, l2]) = wtW 0 (m0 ++ [m1, m2])
  · by_cases e2 : l0.length = m0.length
    · obtain ⟨k3, hk3⟩ := less_l0 (l0 ++ [l1, l2]) (m0 ++ [m1, m2]) (by simp [e2]) hin hin2 hrl hrl2 (by simp; omega) (l0 ++ [l1, l2]).length 0 (by omega)
      refine ⟨k1 + (k2 + k3), ?_⟩
      rw [up_weight hk1, show k1 + (k2 + k3) = k2 + (k1 + k3) by omega, up_weight hk2, if_pos e, if_pos e2, lists_f l0 l1 l2 h, lists_f m0 m1 m2 h']
      simp only [Option.bind_some]
      rw [if_pos e, if_pos (by omega), show k2 + (k1 + k3) = k3 + (k1 + k2) by omega]
      have := up_less_l0 hk3 (k1 + k2)
      simpa using this
    · refine ⟨k1 + k2, ?_⟩
      rw [up_weight hk1, Nat.add_comm, up_weight hk2, if_pos e, if_neg e2]
      simp only [Option.bind_some]
      rw [if_pos e, if_neg (by omega)]
      congr 1
      apply decide_eq_decide.2
      omega
  · refine ⟨k1 + k2, ?_⟩
    rw [up_weight hk1, Nat.add_comm, up_weight hk2, if_neg e]
    simp only [Option.bind_some]
    rw [if_neg e]
end Go.Proofs.Ytgcdeablfoomhaa.PAll
end
section
set_option linter.unusedVariables false
set_option linter.unusedSimpArgs false
namespace Go.Proofs.Ytgcdeablfoomhaa.PAll
open Go.RowKit Go.Proofs.YtgcdeablfoomhaaW.PrintWords Go.Proofs.YtgcdeablfoomhaaW.PrintLast Go.Proofs.YtgcdeablfoomhaaW.PrintMore
section
variable {w w' : World} {A0 A1 A2 : Option Addr} {c0 c1 c2 : Nat} {l0 : List (List Int)} {l1 l2 : List Int} {A0' A1' A2' : Option Addr} {c0' c1' c2' : Nat} {m0 : List (List Int)} {m1 m2 : List Int}
theorem less_calls (h : SR w A0 c0 l0 A1 c1 l1 A2 c2 l2) (h' : SR w A0' c0' m0 A1' c1' m1 A2' c2' m2) (hl : l0.length ≤ 5864062014634) (hl' : m0.length ≤ 5864062014634) (hf : fitsL (l0 ++ [l1, l2]) = true) (hf' : fitsL (m0 ++ [m1, m2]) = true) :
    Calls Try.prog 24 #[.agg #[.slice A0 l0.length c0, .slice A1 l1.length c1, .slice A2 l2.length c2], .agg #[.slice A0' m0.length c0', .slice A1' m1.length c1', .slice A2' m2.length c2']] w fun e w' => e = .returned (.bool (lessT (wtW 0 (l0 ++ [l1, l2])) l0.length (l0 ++ [l1, l2]) (wtW 0 (m0 ++ [m1, m2])) m0.length (m0 ++ [m1, m2]))) ∧ Below w.heap.size w w' := by
  unfold fitsL at hf hf'
  rw [Bool.and_eq_true] at hf hf'
  obtain ⟨k, hk⟩ := less_f l0 l1 l2 m0 m1 m2 hl hl' hf.1 hf'.1 h.lens h'.lens
  exact enumerate_Less.calls k A0 c0 l0 A1 c1 l1 A2 c2 l2 A0' c0' m0 A1' c1' m1 A2' c2' m2 _ w h.r0 h.h0 h.r1 h.h1 h.r2 h.h2 h'.r0 h'.h0 h'.r1 h'.h1 h'.r2 h'.h2 hk
end
theorem order_eq (l0 : List (List Int)) (l1 l2 : List Int) (m0 : List (List Int)) (m1 m2 : List Int) {w : List (List Int) → Int} :
    (lessT (w (l0 ++ [l1, l2])) l0.length (l0 ++ [l1, l2]) (w (m0 ++ [m1, m2])) m0.length (m0 ++ [m1, m2]) || lessT (w (m0 ++ [m1, m2])) m0.length (m0 ++ [m1, m2]) (w (l0 ++ [l1, l2])) l0.length (l0 ++ [l1, l2])) = !eqS l0 l1 l2 m0 m1 m2 := by
  by_cases he : l0 = m0 ∧ l1 = m1 ∧ l2 = m2
  · obtain ⟨rfl, rfl, rfl⟩ := he
    rw [lessT_self]
    simp [eqS]
  · have h1 : eqS l0 l1 l2 m0 m1 m2 = false := by
      unfold eqS
      cases h : decide (l0 = m0) && decide (l1 = m1) && decide (l2 = m2)
      · rfl
      · simp only [Bool.and_eq_true, decide_eq_true_eq] at h
        exact absurd ⟨h.1.1, h.1.2, h.2⟩ he
    rw [h1]
    cases h2 : lessT (w (l0 ++ [l1, l2])) l0.length (l0 ++ [l1, l2]) (w (m0 ++ [m1, m2])) m0.length (m0 ++ [m1, m2])
    · cases h3 : lessT (w (m0 ++ [m1, m2])) m0.length (m0 ++ [m1, m2]) (w (l0 ++ [l1, l2])) l0.length (l0 ++ [l1, l2])
      · obtain ⟨e1, e2⟩ := lessT_total (fun e => by simp [e]) h2 h3
        obtain ⟨e3, e4⟩ := List.append_inj e2 e1
        simp at e4
        exact absurd ⟨e3, e4.1, e4.2⟩ he
      · rfl
    · rfl
theorem tab9_3 : rtab .any (opsOf Try.f9 3) = (true, [([], []), ([], []), ([0, 1], [0, 1]), ([], []), ([], []), ([3, 4, 2], [3, 4]), ([2, 5, 0, 1, 2], [2]), ([5, 6, 0, 1, 2, 3, 4, 5, 6], [5])]) := by kernel_rfl
theorem bits9_3 : waitsOk (true, [([], []), ([], []), ([0, 1], [0, 1]), ([], []), ([], []), ([3, 4, 2], [3, 4]), ([2, 5, 0, 1, 2], [2]), ([5, 6, 0, 1, 2, 3, 4, 5, 6], [5])]).2 [0, 0, 3, 0, 0, 31, 63, 127] = true := by decide +kernel
set_option maxRecDepth 100000 in
set_option maxHeartbeats 16000000 in
theorem EnumerateOrder_calls (Aa0 : Option Addr) (ca0 : Nat) (a0 : List (List Int)) (Aa1 : Option Addr) (ca1 : Nat) (a1 : List Int) (Aa2 : Option Addr) (ca2 : Nat) (a2 : List Int) (Ab0 : Option Addr) (cb0 : Nat) (b0 : List (List Int)) (Ab1 : Option Addr) (cb1 : Nat) (b1 : List Int) (Ab2 : Option Addr) (cb2 : Nat) (b2 : List Int) (Ac0 : Option Addr) (cc0 : Nat) (c0 : List (List Int)) (Ac1 : Option Addr) (cc1 : Nat) (c1 : List Int) (Ac2 : Option Addr) (cc2 : Nat) (c2 : List Int) (W : World) (hra0 : Kd.C (Kd.slice 3 (Kd.int .i64)) W Aa0 a0.length a0) (hca0 : a0.length ≤ ca0) (hra1 : Kd.C (Kd.int .i64) W Aa1 a1.length a1) (hca1 : a1.length ≤ ca1) (hra2 : Kd.C (Kd.int .i64) W Aa2 a2.length a2) (hca2 : a2.length ≤ ca2) (hrb0 : Kd.C (Kd.slice 3 (Kd.int .i64)) W Ab0 b0.length b0) (hcb0 : b0.length ≤ cb0) (hrb1 : Kd.C (Kd.int .i64) W Ab1 b1.length b1) (hcb1 : b1.length ≤ cb1) (hrb2 : Kd.C (Kd.int .i64) W Ab2 b2.length b2) (hcb2 : b2.length ≤ cb2) (hrc0 : Kd.C (Kd.slice 3 (Kd.int .i64)) W Ac0 c0.length c0) (hcc0 : c0.length ≤ cc0) (hrc1 : Kd.C (Kd.int .i64) W Ac1 c1.length c1) (hcc1 : c1.length ≤ cc1) (hrc2 : Kd.C (Kd.int .i64) W Ac2 c2.length c2) (hcc2 : c2.length ≤ cc2) (hla : a0.length ≤ 5864062014634) (hlb : b0.length ≤ 5864062014634) (hlc : c0.length ≤ 5864062014634) :
    Calls Try.prog 9 #[.agg #[.slice Aa0 a0.length ca0, .slice Aa1 a1.length ca1, .slice Aa2 a2.length ca2], .agg #[.slice Ab0 b0.length cb0, .slice Ab1 b1.length cb1, .slice Ab2 b2.length cb2], .agg #[.slice Ac0 c0.length cc0, .slice Ac1 c1.length cc1, .slice Ac2 c2.length cc2]] W fun e w' => e = .returned (.bool true) ∧ Below W.heap.size W w' := by
  obtain ⟨B1, hB1⟩ : ∃ b, b = W.heap.size := ⟨_, rfl⟩
  obtain ⟨B2, hB2⟩ : ∃ b, b = W.heap.size + 1 := ⟨_, rfl⟩
  obtain ⟨B3, hB3⟩ : ∃ b, b = W.heap.size + 1 + 1 := ⟨_, rfl⟩
  have hsa0 := SR.mk hra0 hca0 hra1 hca1 hra2 hca2
  have hsb0 := SR.mk hrb0 hcb0 hrb1 hcb1 hrb2 hcb2
  have hsc0 := SR.mk hrc0 hcc0 hrc1 hcc1 hrc2 hcc2
  have HA0 := Lib.hid hsa0
  have HB0 := Lib.hid hsb0
  have HC0 := Lib.hid hsc0
  clear hsa0 hsb0 hsc0 hra0 hca0 hra1 hca1 hra2 hca2 hrb0 hcb0 hrb1 hcb1 hrb2 hcb2 hrc0 hcc0 hrc1 hcc1 hrc2 hcc2
  go_enter Try.func9, Try.ntmps9
  go_wp2_with (fail)
  obtain ⟨W1, hW1⟩ : ∃ W1, W1 = ((W.alloc (.cells #[.slice Aa0 a0.length ca0, .slice Aa1 a1.length ca1, .slice Aa2 a2.length ca2] 35)).alloc (.cells #[.slice Ab0 b0.length cb0, .slice Ab1 b1.length cb1, .slice Ab2 b2.length cb2] 35)).alloc (.cells #[.slice Ac0 c0.length cc0, .slice Ac1 c1.length cc1, .slice Ac2 c2.length cc2] 35) := ⟨_, rfl⟩
  obtain ⟨n0, n1, n2, hb, hsz⟩ := three_new W (.cells #[.slice Aa0 a0.length ca0, .slice Aa1 a1.length ca1, .slice Aa2 a2.length ca2] 35) (.cells #[.slice Ab0 b0.length cb0, .slice Ab1 b1.length cb1, .slice Ab2 b2.length cb2] 35) (.cells #[.slice Ac0 c0.length cc0, .slice Ac1 c1.length cc1, .slice Ac2 c2.length cc2] 35)
  rw [← hW1] at n0 n1 n2 hb hsz ⊢
  rw [← hB3] at n2
  rw [← hB2] at n1
  rw [← hB1] at n0
  rw [← hB3, ← hB2, ← hB1]
  have HBW1 := Lib.hid hb
  have HSa := Lib.hid (HA0.out.below hb)
  have HSb := Lib.hid (HB0.out.below hb)
  have HSc := Lib.hid (HC0.out.below hb)
  have hs : ∀ w', Below W1.heap.size W1 w' → w'.cell? ⟨B1, 0, none⟩ = some (.slice Aa0 a0.length ca0) ∧ w'.cell? ⟨B1, 1, none⟩ = some (.slice Aa1 a1.length ca1) ∧ w'.cell? ⟨B1, 2, none⟩ = some (.slice Aa2 a2.length ca2) ∧ w'.cell? ⟨B2, 0, none⟩ = some (.slice Ab0 b0.length cb0) ∧ w'.cell? ⟨B2, 1, none⟩ = some (.slice Ab1 b1.length cb1) ∧ w'.cell? ⟨B2, 2, none⟩ = some (.slice Ab2 b2.length cb2) ∧ w'.cell? ⟨B3, 0, none⟩ = some (.slice Ac0 c0.length cc0) ∧ w'.cell? ⟨B3, 1, none⟩ = some (.slice Ac1 c1.length cc1) ∧ w'.cell? ⟨B3, 2, none⟩ = some (.slice Ac2 c2.length cc2) := fun w' hb => by
    have e0 : BoxA w' B1 (.slice Aa0 a0.length ca0) (.slice Aa1 a1.length ca1) (.slice Aa2 a2.length ca2) := (show BoxA W1 B1 (.slice Aa0 a0.length ca0) (.slice Aa1 a1.length ca1) (.slice Aa2 a2.length ca2) from n0).below hb (Array.getElem?_eq_some_iff.1 n0).1
    have e1 : BoxA w' B2 (.slice Ab0 b0.length cb0) (.slice Ab1 b1.length cb1) (.slice Ab2 b2.length cb2) := (show BoxA W1 B2 (.slice Ab0 b0.length cb0) (.slice Ab1 b1.length cb1) (.slice Ab2 b2.length cb2) from n1).below hb (Array.getElem?_eq_some_iff.1 n1).1
    have e2 : BoxA w' B3 (.slice Ac0 c0.length cc0) (.slice Ac1 c1.length cc1) (.slice Ac2 c2.length cc2) := (show BoxA W1 B3 (.slice Ac0 c0.length cc0) (.slice Ac1 c1.length cc1) (.slice Ac2 c2.length cc2) from n2).below hb (Array.getElem?_eq_some_iff.1 n2).1
    exact ⟨e0.c0, e0.c1, e0.c2, e1.c0, e1.c1, e1.c2, e2.c0, e2.c1, e2.c2⟩
  have HS := Lib.hid hs
  have HB1_ : Hid (Below W1.heap.size W1 W1) := Lib.hid (Below.refl _ _)
  clear hW1 n0 n1 n2 hb hsz hB1 hB2 hB3 hs HA0 HB0 HC0
  refine (awake_calls _).mono ?_
  rintro e w2 ⟨rfl, hb⟩
  have HB2 := Lib.hid (HB1_.out.trans (hb.mono HB1_.out.size))
  clear hb HB1_
  obtain ⟨x0, x1, x2, x3, x4, x5, x6, x7, x8⟩ := HS.out _ HB2.out
  go_wp2_with (fail)
  refine (fits_calls (HSa.out.below HB2.out) hla).mono ?_
  rintro e w3 ⟨rfl, hb⟩
  have HB3 := Lib.hid (HB2.out.trans (hb.mono HB2.out.size))
  clear hb x0 x1 x2 x3 x4 x5 x6 x7 x8
  cases hfa : fitsL (a0 ++ [a1, a2]) with
  | false =>
    clear hfa
    go_wp2_with (fail)
    refine (awake_calls _).mono ?_
    rintro e wz ⟨rfl, hb⟩
    have HBZ := Lib.hid (HB3.out.trans (hb.mono HB3.out.size))
    clear hb
    go_wp2
    go_ret
    exact ⟨rfl, HBW1.out.trans (HBZ.out.mono HBW1.out.size)⟩
  | true =>
    have HFa := Lib.hid hfa
    clear hfa
    obtain ⟨x0, x1, x2, x3, x4, x5, x6, x7, x8⟩ := HS.out _ HB3.out
    go_wp2_with (fail)
    refine (fits_calls (HSb.out.below HB3.out) hlb).mono ?_
    rintro e w4 ⟨rfl, hb⟩
    have HB4 := Lib.hid (HB3.out.trans (hb.mono HB3.out.size))
    clear hb x0 x1 x2 x3 x4 x5 x6 x7 x8
    cases hfb : fitsL (b0 ++ [b1, b2]) with
    | false =>
      clear hfb
      go_wp2_with (fail)
      refine (awake_calls _).mono ?_
      rintro e wz ⟨rfl, hb⟩
      have HBZ := Lib.hid (HB4.out.trans (hb.mono HB4.out.size))
      clear hb
      go_wp2
      go_ret
      exact ⟨rfl, HBW1.out.trans (HBZ.out.mono HBW1.out.size)⟩
    | true =>
      have HFb := Lib.hid hfb
      clear hfb
      obtain ⟨x0, x1, x2, x3, x4, x5, x6, x7, x8⟩ := HS.out _ HB4.out
      go_wp2_with (fail)
      refine (fits_calls (HSc.out.below HB4.out) hlc).mono ?_
      rintro e w5 ⟨rfl, hb⟩
      have HB5 := Lib.hid (HB4.out.trans (hb.mono HB4.out.size))
      clear hb x0 x1 x2 x3 x4 x5 x6 x7 x8
      cases hfc : fitsL (c0 ++ [c1, c2]) with
      | false =>
        clear hfc
        go_wp2_with (fail)
        refine (awake_calls _).mono ?_
        rintro e wz ⟨rfl, hb⟩
        have HBZ := Lib.hid (HB5.out.trans (hb.mono HB5.out.size))
        clear hb
        go_wp2
        go_ret
        exact ⟨rfl, HBW1.out.trans (HBZ.out.mono HBW1.out.size)⟩
      | true =>
        have HFc := Lib.hid hfc
        clear hfc
        obtain ⟨p, hp⟩ : ∃ p, p = lessT (wtW 0 (a0 ++ [a1, a2])) a0.length (a0 ++ [a1, a2]) (wtW 0 (b0 ++ [b1, b2])) b0.length (b0 ++ [b1, b2]) := ⟨_, rfl⟩
        obtain ⟨q, hq⟩ : ∃ q, q = lessT (wtW 0 (b0 ++ [b1, b2])) b0.length (b0 ++ [b1, b2]) (wtW 0 (a0 ++ [a1, a2])) a0.length (a0 ++ [a1, a2]) := ⟨_, rfl⟩
        have HP := Lib.hid hp
        have HQ := Lib.hid hq
        clear hp hq
        go_wp2_with (fail)
        refine start_ (n := 8) (S := fun w' => w'.cell? ⟨B1, 0, none⟩ = some (.slice Aa0 a0.length ca0) ∧ w'.cell? ⟨B1, 1, none⟩ = some (.slice Aa1 a1.length ca1) ∧ w'.cell? ⟨B1, 2, none⟩ = some (.slice Aa2 a2.length ca2) ∧ w'.cell? ⟨B2, 0, none⟩ = some (.slice Ab0 b0.length cb0) ∧ w'.cell? ⟨B2, 1, none⟩ = some (.slice Ab1 b1.length cb1) ∧ w'.cell? ⟨B2, 2, none⟩ = some (.slice Ab2 b2.length cb2) ∧ w'.cell? ⟨B3, 0, none⟩ = some (.slice Ac0 c0.length cc0) ∧ w'.cell? ⟨B3, 1, none⟩ = some (.slice Ac1 c1.length cc1) ∧ w'.cell? ⟨B3, 2, none⟩ = some (.slice Ac2 c2.length cc2)) (ds := []) #[false, false, false, false, false, false, false, false] (by kernel_rfl) rfl rfl (HS.out _ (HB5.out.trans ((below_drew1 (Below.refl _ _)).mono HB5.out.size))) (fun hHeld => ?_); refine with_tabW tab9_3 bits9_3 (fun HT_ HW_ => ?_)
        obtain ⟨W0, hW0⟩ : ∃ W0, W0 = w5.drew := ⟨_, rfl⟩
        have HB0 : Hid (Below W0.heap.size W0 W0) := Lib.hid (Below.refl _ _)
        have hd : Below w5.heap.size w5 W0 := by rw [hW0]; exact below_drew1 (Below.refl _ _)
        have HB6 := Lib.hid (HB5.out.trans (hd.mono HB5.out.size))
        have HSO := HS
        have hs2 : ∀ w', Below W0.heap.size W0 w' → w'.cell? ⟨B1, 0, none⟩ = some (.slice Aa0 a0.length ca0) ∧ w'.cell? ⟨B1, 1, none⟩ = some (.slice Aa1 a1.length ca1) ∧ w'.cell? ⟨B1, 2, none⟩ = some (.slice Aa2 a2.length ca2) ∧ w'.cell? ⟨B2, 0, none⟩ = some (.slice Ab0 b0.length cb0) ∧ w'.cell? ⟨B2, 1, none⟩ = some (.slice Ab1 b1.length cb1) ∧ w'.cell? ⟨B2, 2, none⟩ = some (.slice Ab2 b2.length cb2) ∧ w'.cell? ⟨B3, 0, none⟩ = some (.slice Ac0 c0.length cc0) ∧ w'.cell? ⟨B3, 1, none⟩ = some (.slice Ac1 c1.length cc1) ∧ w'.cell? ⟨B3, 2, none⟩ = some (.slice Ac2 c2.length cc2) := fun w' hb => HSO.out w' (HB6.out.trans (hb.mono HB6.out.size))
        rw [← hW0] at hHeld ⊢
        clear hW0 HS hd
        have HS := Lib.hid hs2
        have HA6 := Lib.hid (HSa.out.below HB6.out)
        have HC6 := Lib.hid (HSb.out.below HB6.out)
        clear hs2
        refine take_ (i := 0) (N := some 27) (v := ?_) (a' := ?_) #[true, false, false, false, false, false, false, false] rfl rfl (take_ofW HT_.out HW_.out (by kernel_rfl)) (fun _ _ _ h => h) (Or.inl ⟨by rfl, ?_⟩) hHeld ?_ ?_
        rotate_left
        · rintro w' ⟨s0, s1, s2, s3, s4, s5, s6, s7, s8⟩
          go_simp
          with_reducible rfl
        rotate_left
        · simp only [Act.put, List.setIfInBounds_toArray, List.set_cons_zero, List.set_cons_succ, i64_w, i32_w]
          rfl
        refine take_ (i := 1) (N := some 28) (v := ?_) (a' := ?_) #[true, true, false, false, false, false, false, false] rfl rfl (take_ofW HT_.out HW_.out (by kernel_rfl)) (fun _ _ _ h => h) (Or.inl ⟨by rfl, ?_⟩) hHeld ?_ ?_
        rotate_left
        · rintro w' ⟨s0, s1, s2, s3, s4, s5, s6, s7, s8⟩
          go_simp
          with_reducible rfl
        rotate_left
        · simp only [Act.put, List.setIfInBounds_toArray, List.set_cons_zero, List.set_cons_succ, i64_w, i32_w]
          rfl
        refine take_ (i := 3) (N := some 30) (v := ?_) (a' := ?_) #[true, true, false, true, false, false, false, false] rfl rfl (take_ofW HT_.out HW_.out (by kernel_rfl)) (fun _ _ _ h => h) (Or.inl ⟨by rfl, ?_⟩) hHeld ?_ ?_
        rotate_left
        · rintro w' ⟨s0, s1, s2, s3, s4, s5, s6, s7, s8⟩
          go_simp
          with_reducible rfl
        rotate_left
        · simp only [Act.put, List.setIfInBounds_toArray, List.set_cons_zero, List.set_cons_succ, i64_w, i32_w]
          rfl
        refine take_ (i := 4) (N := some 31) (v := ?_) (a' := ?_) #[true, true, false, true, true, false, false, false] rfl rfl (take_ofW HT_.out HW_.out (by kernel_rfl)) (fun _ _ _ h => h) (Or.inl ⟨by rfl, ?_⟩) hHeld ?_ ?_
        rotate_left
        · rintro w' ⟨s0, s1, s2, s3, s4, s5, s6, s7, s8⟩
          go_simp
          with_reducible rfl
        rotate_left
        · simp only [Act.put, List.setIfInBounds_toArray, List.set_cons_zero, List.set_cons_succ, i64_w, i32_w]
          rfl
        refine join_ (σ := Unit) 2 #[true, true, true, true, true, true, false, false] (fun _ => [(29, .bool p), (32, .bool q)]) (fun _ w' => Below W0.heap.size W0 w') ?hc9_3 (fun HCONT => ?ht9_3)
        case ht9_3 =>
          refine one_ (i := 2) (N := some 29) #[true, true, true, true, true, false, false, false] rfl rfl (one_of HT_.out (by kernel_rfl)) (by decide) (fun K hK => ?_)
          refine goes_ Try.func24 (by kernel_rfl) rfl #[.agg #[.slice Aa0 a0.length ca0, .slice Aa1 a1.length ca1, .slice Aa2 a2.length ca2], .agg #[.slice Ab0 b0.length cb0, .slice Ab1 b1.length cb1, .slice Ab2 b2.length cb2]] (by rfl) rfl rfl (by first | rfl | simp [Act.eval]) ?_
          refine (less_calls (HA6.out.below HB0.out) (HC6.out.below HB0.out) hla hlb HFa.out HFb.out).mono ?_
          rw [← HP.out]
          rintro e w9_3_1 ⟨rfl, hb⟩
          refine ⟨_, rfl, ?_⟩
          have HB9_3_1 := Lib.hid (HB0.out.trans (hb.mono HB0.out.size))
          clear hb
          refine hK.out _ _ (HS.out _ HB9_3_1.out) (fun hHeld => ?_)
          clear hK K
          refine norm_ (a' := ?_) ?_ ?_
          rotate_left
          · show Act.put _ (some 29) _ = _
            simp only [Act.put, List.setIfInBounds_toArray, List.set_cons_zero, List.set_cons_succ, i64_w, i32_w]
            rfl
          refine one_ (i := 5) (N := some 32) #[true, true, true, true, true, true, false, false] rfl rfl (one_of HT_.out (by kernel_rfl)) (by decide) (fun K hK => ?_)
          refine goes_ Try.func24 (by kernel_rfl) rfl #[.agg #[.slice Ab0 b0.length cb0, .slice Ab1 b1.length cb1, .slice Ab2 b2.length cb2], .agg #[.slice Aa0 a0.length ca0, .slice Aa1 a1.length ca1, .slice Aa2 a2.length ca2]] (by rfl) rfl rfl (by first | rfl | simp [Act.eval]) ?_
          refine (less_calls (HC6.out.below HB9_3_1.out) (HA6.out.below HB9_3_1.out) hlb hla HFb.out HFa.out).mono ?_
          rw [← HQ.out]
          rintro e w9_3_2 ⟨rfl, hb⟩
          refine ⟨_, rfl, ?_⟩
          have HB9_3_2 := Lib.hid (HB9_3_1.out.trans (hb.mono HB9_3_1.out.size))
          clear hb
          refine hK.out _ _ (HS.out _ HB9_3_2.out) (fun hHeld => ?_)
          clear hK K
          refine norm_ (a' := ?_) ?_ ?_
          rotate_left
          · show Act.put _ (some 32) _ = _
            simp only [Act.put, List.setIfInBounds_toArray, List.set_cons_zero, List.set_cons_succ, i64_w, i32_w]
            rfl
          have hc := HCONT () _ HB9_3_2.out
          simp only [putAll, Act.put, List.setIfInBounds_toArray, List.set_cons_zero, List.set_cons_succ] at hc
          exact hc
        case hc9_3 =>
          rintro ⟨⟩ wz hbz
          have HBZ := Lib.hid hbz
          clear hbz
          have hHeld := HS.out _ HBZ.out
          refine norm_ (a' := ?_) ?_ ?_
          rotate_left
          · simp only [putAll, Act.put, List.setIfInBounds_toArray, List.set_cons_zero, List.set_cons_succ]
            rfl
          refine pure_ (i := 6) (N := some 7) (v := ?_) (a' := ?_) #[true, true, true, true, true, true, true, false] rfl rfl (any_of HT_.out (by kernel_rfl)) (fun _ _ _ h => h) (Or.inl ⟨by rfl, ?_⟩) ?_ ?_
          rotate_left
          · intro w'
            go_simp
            with_reducible rfl
          rotate_left
          · simp only [Act.put, List.setIfInBounds_toArray, List.set_cons_zero, List.set_cons_succ, i64_w, i32_w]
            rfl
          refine pure_ (i := 7) (N := some 8) (v := ?_) (a' := ?_) #[true, true, true, true, true, true, true, true] rfl rfl (any_of HT_.out (by kernel_rfl)) (fun _ _ _ h => h) (Or.inl ⟨by rfl, ?_⟩) ?_ ?_
          rotate_left
          · intro w'
            go_simp
            with_reducible rfl
          rotate_left
          · simp only [Act.put, List.setIfInBounds_toArray, List.set_cons_zero, List.set_cons_succ, i64_w, i32_w]
            rfl
          refine done_ (done_of HT_.out (by kernel_rfl)) ?_
          have HB7 := Lib.hid (HB6.out.trans (HBZ.out.mono HB6.out.size))
          clear hHeld HBZ HA6 HC6 HS HB0
          obtain ⟨x0, x1, x2, x3, x4, x5, x6, x7, x8⟩ := HSO.out _ HB7.out
          go_wp2_with (fail)
          refine (less_calls (HSa.out.below HB7.out) (HSa.out.below HB7.out) hla hla HFa.out HFa.out).mono ?_
          rw [lessT_self]
          rintro e w8 ⟨rfl, hb⟩
          have HB8 := Lib.hid (HB7.out.trans (hb.mono HB7.out.size))
          clear hb x0 x1 x2 x3 x4 x5 x6 x7 x8
          obtain ⟨x0, x1, x2, x3, x4, x5, x6, x7, x8⟩ := HSO.out _ HB8.out
          have heq : (p || q) = !eqS a0 a1 a2 b0 b1 b2 := by rw [HP.out, HQ.out]; exact order_eq (w := wtW 0) a0 a1 a2 b0 b1 b2
          have hasy : p = true → q = false := fun h => by rw [HP.out] at h; rw [HQ.out]; exact lessT_asymm h
          have HEQ := Lib.hid heq
          have HASY := Lib.hid hasy
          clear heq hasy
          cases p with
          | true =>
            have hq : q = false := HASY.out rfl
            have he := HEQ.out
            rw [hq] at he
            subst hq
            have he2 : eqS a0 a1 a2 b0 b1 b2 = false := by simpa using he
            have HE2 := Lib.hid he2
            clear he he2
            go_wp2_with (fail)
            refine (equal_calls (HSa.out.below HB8.out) (HSb.out.below HB8.out) hla).mono ?_
            rw [HE2.out]
            rintro e w9 ⟨rfl, hb⟩
            have HB9 := Lib.hid (HB8.out.trans (hb.mono HB8.out.size))
            clear hb x0 x1 x2 x3 x4 x5 x6 x7 x8
            obtain ⟨x0, x1, x2, x3, x4, x5, x6, x7, x8⟩ := HSO.out _ HB9.out
            go_wp2_with (fail)
            refine (less_calls (HSb.out.below HB9.out) (HSc.out.below HB9.out) hlb hlc HFb.out HFc.out).mono ?_
            obtain ⟨r, hr⟩ : ∃ r, r = lessT (wtW 0 (b0 ++ [b1, b2])) b0.length (b0 ++ [b1, b2]) (wtW 0 (c0 ++ [c1, c2])) c0.length (c0 ++ [c1, c2]) := ⟨_, rfl⟩
            rw [← hr]
            have HR := Lib.hid hr
            clear hr
            rintro e w10 ⟨rfl, hb⟩
            have HB10 := Lib.hid (HB9.out.trans (hb.mono HB9.out.size))
            clear hb x0 x1 x2 x3 x4 x5 x6 x7 x8
            cases r with
            | false =>
              go_wp2
              go_ret
              exact ⟨rfl, HBW1.out.trans (HB10.out.mono HBW1.out.size)⟩
            | true =>
              obtain ⟨x0, x1, x2, x3, x4, x5, x6, x7, x8⟩ := HSO.out _ HB10.out
              go_wp2_with (fail)
              refine (less_calls (HSa.out.below HB10.out) (HSc.out.below HB10.out) hla hlc HFa.out HFc.out).mono ?_
              rw [lessT_trans HP.out.symm HR.out.symm]
              rintro e w11 ⟨rfl, hb⟩
              have HB11 := Lib.hid (HB10.out.trans (hb.mono HB10.out.size))
              clear hb x0 x1 x2 x3 x4 x5 x6 x7 x8
              go_wp2
              go_ret
              exact ⟨rfl, HBW1.out.trans (HB11.out.mono HBW1.out.size)⟩
          | false =>
            have he := HEQ.out
            rw [Bool.false_or] at he
            have he2 : eqS a0 a1 a2 b0 b1 b2 = !q := by rw [he]; simp
            have HE2 := Lib.hid he2
            clear he he2
            cases q with
            | true =>
              go_wp2_with (fail)
              refine (equal_calls (HSa.out.below HB8.out) (HSb.out.below HB8.out) hla).mono ?_
              rw [HE2.out]
              rintro e w9 ⟨rfl, hb⟩
              have HB9 := Lib.hid (HB8.out.trans (hb.mono HB8.out.size))
              clear hb x0 x1 x2 x3 x4 x5 x6 x7 x8
              go_wp2
              go_ret
              exact ⟨rfl, HBW1.out.trans (HB9.out.mono HBW1.out.size)⟩
            | false =>
              go_wp2_with (fail)
              refine (equal_calls (HSa.out.below HB8.out) (HSb.out.below HB8.out) hla).mono ?_
              rw [HE2.out]
              rintro e w9 ⟨rfl, hb⟩
              have HB9 := Lib.hid (HB8.out.trans (hb.mono HB8.out.size))
              clear hb x0 x1 x2 x3 x4 x5 x6 x7 x8
              go_wp2
              go_ret
              exact ⟨rfl, HBW1.out.trans (HB9.out.mono HBW1.out.size)⟩
end Go.Proofs.Ytgcdeablfoomhaa.PAll
end
section
set_option linter.unusedVariables false
set_option linter.unusedSimpArgs false
namespace Go.Proofs.Ytgcdeablfoomhaa.PAll
open Go.RowKit Go.ChangeShapes Go.WideShapes Go.ChangeAt Go.Proofs.YtgcdeablfoomhaaW.PrintWords Go.Proofs.YtgcdeablfoomhaaW.PrintLast
section
variable {H : Type} {enc : TypeId × Value → H} {P : Program} {w : World} {base : Nat} {spare : Nat → Bool} {held : Bool}
/-- The cells of an element, read as_ an element. -/
def Opens (enc : TypeId × Value → H) (P : Program) (w : World) (base : Nat) (spare : Nat → Bool) (held : Bool) {α : Type} (d : Kd α) (e : TypeId) (good : α → Prop) : Prop :=
  ∀ (fuel : Nat) (cs : List Value) (x : DataW H × List MemPlace), DataW.trod enc P w base spare held fuel e cs = some x → ∃ p, d.K w p cs ∧ good p
theorem add_add_plain (a : Addr) (i j : Nat) : (a.add i).add j = a.add (i + j) := Addr.add_add a i j
theorem opens_row {α : Type} {d : Kd α} {t e : TypeId} {good : α → Prop} (ht : P.underlying t = some (.slice e)) (hc : P.cellsOf e = d.sz) (ho : Opens enc P w base spare held d e good)
    {fuel : Nat} {cs : List Value} {x : DataW H × List MemPlace} (h : DataW.trod enc P w base spare held fuel t cs = some x) :
    ∃ A cap, ∃ l : List α, cs = [.slice A l.length cap] ∧ l.length ≤ cap ∧ d.C w A l.length l ∧ ∀ x ∈ l, good x := by
  rcases DataW.trod_slice ht h with ⟨rfl, _⟩ | ⟨a, len, cap, elems, rest, n, _, rfl, _, hb, hl, hm, hlen, hel, _, _⟩
  · exact ⟨none, 0, [], rfl, Nat.le_refl _, ⟨rfl, by simp, fun hn => by simp at hn⟩, by simp⟩
  · have each : ∀ i : Fin len, ∃ p c, w.cells? base (a.add (i.1 * d.sz)) d.sz = some c ∧ d.K w p c ∧ good p := by
      intro i
      have h1 := hel i.1 i.2
      have hi : i.1 < elems.length := by rw [hlen]; exact i.2
      rw [hc, List.getElem?_eq_getElem hi, Option.bind_eq_some_iff] at h1
      obtain ⟨c, hcs, hy⟩ := h1
      obtain ⟨p, hp, hg⟩ := ho n c _ hy
      exact ⟨p, c, hcs, hp, hg⟩
    obtain ⟨f, hf⟩ := Classical.axiomOfChoice each
    have hL : ((List.finRange len).map f).length = len := by simp
    refine ⟨some a, cap, (List.finRange len).map f, by rw [hL], by rw [hL]; exact hl, ⟨by rw [hL], by rw [hL]; simp only [maxLen] at hm; omega, fun hn => ⟨a, rfl, fun j p hj => ?_⟩⟩, ?_⟩
    · have hjl : j < len := by
        have := (List.getElem?_eq_some_iff.1 hj).1
        rw [hL] at this; exact this
      obtain ⟨c, hcs, hp, hg⟩ := hf ⟨j, hjl⟩
      have he : p = f ⟨j, hjl⟩ := by
        have h2 := (List.getElem?_eq_some_iff.1 hj).2
        simp at h2
        exact h2.symm
      have hs := World.cells?_some hcs
      refine ⟨c, d.K_len hp, by rw [he]; exact hp, fun i u hu => ?_⟩
      have hic : i < d.sz := by have := (List.getElem?_eq_some_iff.1 hu).1; rw [d.K_len hp] at this; exact this
      have h3 := hs.2.2 i hic
      rw [add_add_plain] at h3
      rw [h3]; exact hu
    · intro x hx
      obtain ⟨i, _, rfl⟩ := List.mem_map.1 hx
      obtain ⟨c, _, _, hg⟩ := hf i
      exact hg
theorem opens_int {e : TypeId} {k : IntKind} (he : P.underlying e = some (.int k)) : Opens enc P w base spare held (Kd.int k) e (fun n => (Lit.int k n).wf = true) := by
  intro fuel cs x h
  obtain ⟨n, rfl, _, hw⟩ := DataW.trod_int he h
  exact ⟨n, rfl, hw⟩
theorem opens_slice {α : Type} {d : Kd α} {t e : TypeId} {good : α → Prop} (ht : P.underlying t = some (.slice e)) (hc : P.cellsOf e = d.sz) (ho : Opens enc P w base spare held d e good) :
    Opens enc P w base spare held (Kd.slice e d) t (fun l => ∀ x ∈ l, good x) := by
  intro fuel cs x h
  obtain ⟨A, cap, l, rfl, hl, hC, hg⟩ := opens_row ht hc ho h
  exact ⟨l, ⟨A, cap, rfl, hl, hC⟩, hg⟩
end
end Go.Proofs.Ytgcdeablfoomhaa.PAll
end
section
set_option linter.unusedVariables false
set_option linter.unusedSimpArgs false
namespace Go.Proofs.Ytgcdeablfoomhaa.PAll
open Go.RowKit Go.ChangeShapes Go.WideShapes Go.ChangeAt Go.Proofs.YtgcdeablfoomhaaW.PrintWords Go.Proofs.YtgcdeablfoomhaaW.PrintLast
variable {H : Type} {enc : TypeId × Value → H} {w : World} {base : Nat} {spare : Nat → Bool} {held : Bool}
def goodInts (l : List Int) : Prop := ∀ x ∈ l, (Lit.int .i64 x).wf = true
set_option maxRecDepth 100000 in
theorem open_state {W : World} {r : Reach} {b0 : Nat} {v : Value} {dd : DataW H} {p : List MemPlace} (hval : Value.okWide Try.prog W r b0 35 v) (h : DataW.Trod enc Try.prog w base spare held 35 v dd p) :
    ∃ A0 c0, ∃ l0 : List (List Int), ∃ A1 c1, ∃ l1 : List Int, ∃ A2 c2, ∃ l2 : List Int, v = .agg #[.slice A0 l0.length c0, .slice A1 l1.length c1, .slice A2 l2.length c2] ∧
      (l0.length ≤ c0 ∧ Kd.C (Kd.slice 3 (Kd.int .i64)) w A0 l0.length l0 ∧ ∀ x ∈ l0, goodInts x) ∧ (l1.length ≤ c1 ∧ Kd.C (Kd.int .i64) w A1 l1.length l1 ∧ goodInts l1) ∧ (l2.length ≤ c2 ∧ Kd.C (Kd.int .i64) w A2 l2.length l2 ∧ goodInts l2) := by
  have hv : ∃ cs : Array Value, v = .agg cs ∧ cs.size = Try.prog.cellsOf 35 := by
    unfold Value.okWide at hval
    rw [Try.underlying35] at hval
    obtain ⟨cs, h1, h2, _⟩ := hval
    exact ⟨cs, h1, h2⟩
  obtain ⟨cs, rfl, hsz⟩ := hv
  obtain ⟨fuel, h⟩ := h
  have hcells : (Value.agg cs).cells.toList = cs.toList := rfl
  rw [hcells] at h
  obtain ⟨xs, n, _, _, hcs, hxs, hf⟩ := DataW.trod_struct Try.underlying35 h
  have e35 : Try.prog.cellsOf 35 = 3 := by kernel_rfl
  have hl : cs.toList.length = 3 := by rw [hcs, e35]
  obtain ⟨a, b, c, hcl⟩ : ∃ a b c, cs.toList = [a, b, c] := by
    match cs.toList, hl with
    | [a, b, c], _ => exact ⟨a, b, c, rfl⟩
  obtain rfl : cs = #[a, b, c] := by rw [← Array.toList_inj]; exact hcl
  have hx3 : xs.length = 3 := hxs
  have h0 := hf 0 _ rfl
  have h1 := hf 1 _ rfl
  have h2 := hf 2 _ rfl
  rw [List.getElem?_eq_getElem (by omega)] at h0 h1 h2
  have e3 : Try.prog.cellsOf 3 = 1 := by kernel_rfl
  have e33 : Try.prog.cellsOf 33 = 1 := by kernel_rfl
  have e32 : Try.prog.cellsOf 32 = 1 := by kernel_rfl
  obtain ⟨A0, c0, l0, hs0, g0, C0, w0⟩ := opens_row (d := Kd.slice 3 (Kd.int .i64)) (good := goodInts) Try.underlying32 e33 (opens_slice Try.underlying33 e3 (opens_int Try.underlying3)) h0
  obtain ⟨A1, c1, l1, hs1, g1, C1, w1⟩ := opens_row (d := Kd.int .i64) Try.underlying33 e3 (opens_int Try.underlying3) h1
  obtain ⟨A2, c2, l2, hs2, g2, C2, w2⟩ := opens_row (d := Kd.int .i64) Try.underlying33 e3 (opens_int Try.underlying3) h2
  have hs0' : [a] = [Value.slice A0 l0.length c0] := by
    have : ([a, b, c].drop 0).take (Try.prog.cellsOf 32) = [Value.slice A0 l0.length c0] := hs0
    rw [e32] at this; simpa using this
  have hs1' : [b] = [Value.slice A1 l1.length c1] := by
    have : ([a, b, c].drop 1).take (Try.prog.cellsOf 33) = [Value.slice A1 l1.length c1] := hs1
    rw [e33] at this; simpa using this
  have hs2' : [c] = [Value.slice A2 l2.length c2] := by
    have : ([a, b, c].drop 2).take (Try.prog.cellsOf 33) = [Value.slice A2 l2.length c2] := hs2
    rw [e33] at this; simpa using this
  obtain rfl : a = .slice A0 l0.length c0 := by simpa using hs0'
  obtain rfl : b = .slice A1 l1.length c1 := by simpa using hs1'
  obtain rfl : c = .slice A2 l2.length c2 := by simpa using hs2'
  exact ⟨A0, c0, l0, A1, c1, l1, A2, c2, l2, rfl, ⟨g0, C0, w0⟩, ⟨g1, C1, w1⟩, ⟨g2, C2, w2⟩⟩
theorem weights_at {P : Program} {f : Nat → Bool} : ∀ (ts : List TypeId) (ds : List (DataW H)) (j : Nat) (t : TypeId) (d : DataW H), (DataW.weightsEach P ts ds).all f = true → ts[j]? = some t → ds[j]? = some d → (d.weights P t).all f = true
  | [], _, j, t, d, _, ht, _ => by simp at ht
  | _ :: _, [], j, t, d, _, _, hd => by simp at hd
  | t0 :: ts, d0 :: ds, 0, t, d, h, ht, hd => by
    simp only [List.getElem?_cons_zero, Option.some.injEq] at ht hd
    subst ht hd
    simp only [DataW.weightsEach, List.all_append, Bool.and_eq_true] at h
    exact h.1
  | t0 :: ts, d0 :: ds, j + 1, t, d, h, ht, hd => by
    simp only [DataW.weightsEach, List.all_append, Bool.and_eq_true] at h
    exact weights_at ts ds j t d h.2 (by simpa using ht) (by simpa using hd)
/-- A state's cells are no more than its weight allows. -/
theorem sized_state {A0 : Option Addr} {n0 c0 : Nat} {v1 v2 : Value} {dd : DataW H} {p : List MemPlace} (h : DataW.Trod enc Try.prog w base spare held 35 (.agg #[.slice A0 n0 c0, v1, v2]) dd p) (hw : (dd.weights Try.prog 35).all (· ≤ reachBytes) = true) : n0 * 24 ≤ 140737488351232 := by
  obtain ⟨fuel, h⟩ := h
  obtain ⟨xs, n, _, hx, hcs, hxs, hf⟩ := DataW.trod_struct Try.underlying35 h
  have hx3 : xs.length = 3 := hxs
  have h0 := hf 0 _ rfl
  rw [List.getElem?_eq_getElem (by omega)] at h0
  have e32 : Try.prog.cellsOf 32 = 1 := by kernel_rfl
  have e33 : Try.prog.cellsOf 33 = 1 := by kernel_rfl
  have b33 : Try.prog.bytesOf 33 = 24 := by kernel_rfl
  have hcell : (((Value.agg #[.slice A0 n0 c0, v1, v2]).cells.toList).drop 0).take (Try.prog.cellsOf 32) = [Value.slice A0 n0 c0] := by rw [e32]; rfl
  match xs, hx3 with
  | [x0, x1, x2], _ =>
  have hdd : dd = .agg [x0.1, x1.1, x2.1] := by have := congrArg Prod.fst hx; simpa using this
  subst hdd
  have hw2 : ((x0.1).weights Try.prog 32).all (· ≤ reachBytes) = true := by
    simp only [DataW.weights, Try.underlying35, List.map_cons, List.map_nil, DataW.weightsEach, List.all_append, Bool.and_eq_true] at hw
    exact hw.1
  have h0' : DataW.trod enc Try.prog w base spare held n 32 [Value.slice A0 n0 c0] = some x0 := by
    rw [← hcell]; exact h0
  rcases DataW.trod_slice Try.underlying32 h0' with ⟨hc, _⟩ | ⟨a, len, cap, elems, rest, m, _, hc, hx0, _, _, _, hlen, _, _, _⟩
  · simp at hc
    omega
  · simp at hc
    have hx1 : x0.1 = .slice (elems.map (·.1)) (rest.map (·.1)) := congrArg Prod.fst hx0
    rw [hx1] at hw2
    simp only [DataW.weights, Try.underlying32, List.all_cons, Bool.and_eq_true, decide_eq_true_eq, List.length_map, b33] at hw2
    have h9 := hw2.1
    have hr : reachBytes = 140737488351232 := by decide
    rw [hr, hlen] at h9
    have : n0 = len := hc.2.1
    omega
end Go.Proofs.Ytgcdeablfoomhaa.PAll
end
