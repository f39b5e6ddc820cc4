/- Lemmas and walks of one claim, packed into one text by a program (wip/shake.py). -/
import Derived.ArgAppend
import Derived.Below
import Derived.BigQuiet
import Derived.Deep.AppendLies
import Derived.Deep.CutBlock
import Derived.Deep.DeepCutAuto
import Derived.Deep.Draws
import Derived.Deep.LoopGhost
import Derived.Deep.OwnRows
import Derived.Deep.QuietTactic
import Derived.Deep.RegionHeld3
import Derived.KernelRfl
import Derived.Laws.BitsLemmas
import Derived.Laws.BytesArg
import Derived.Laws.Cover3
import Derived.Laws.IdiomCopy
import Derived.Laws.MakeOwn
import Derived.Laws.OwnMore
import Derived.Laws.Rows
import Derived.Laws.Slices
import Derived.Lib.AppendStr
import Derived.Lib.ConvBytes
import Derived.Lib.Hide
import Derived.Maps.AppendAt
import Derived.OrdersHeld
import Derived.OwnWalk
import Derived.RowKit
import Derived.RowKit3
import Derived.Sort.LoopGhostIn
import Derived.Tactics
import Derived.WalkKit
import Derived.WideLaws
import Derived.Test.YtgcdeablfoomhaaSt3
section
namespace Go.Proofs.Ytgcdeablfoomhaa.PAll
open Go.RowKit Go.Proofs.YtgcdeablfoomhaaW.PrintWords Go.Proofs.YtgcdeablfoomhaaW.PrintLast Go.Proofs.YtgcdeablfoomhaaW.PrintMore
attribute [local go_sem] max2_int min2_int max_two min_two max_three min_three max_four min_four   -- for this text's walks alone
set_option linter.unusedVariables false
set_option linter.unusedSimpArgs false
def slices_Equal_int_int.l0 : Nat → List Int → List Int → Int → Int → Option (Bool)
  | 0, _, _, _, _ => none
  | k + 1, x0, x1, x12, x13 => if x13 < x12 then (if 0 ≤ x13 then (if x13 < (x0.length : Int) then (if x13 < (x1.length : Int) then (if (rd x0 x13) = (rd x1 x13) then (slices_Equal_int_int.l0 k x0 x1 x12 (wrap64 (x13 + 1))) else (some false)) else (none)) else (none)) else (none)) else (some true)
def slices_Equal_int_int.f (k : Nat) (l0 : List Int) (l1 : List Int) : Option (Bool) := if (l0.length : Int) = (l1.length : Int) then (slices_Equal_int_int.l0 k l0 l1 (l0.length : Int) 0) else (some false)
set_option maxHeartbeats 8000000 in
set_option maxRecDepth 100000 in
theorem slices_Equal_int_int.calls (k : Nat) (A0 : Option Addr) (c0 : Nat) (l0 : List Int) (A1 : Option Addr) (c1 : Nat) (l1 : List Int) (r : Bool) (w : World) (hr0 : Kd.C (Kd.int .i64) w A0 l0.length l0) (hc0 : l0.length ≤ c0) (hr1 : Kd.C (Kd.int .i64) w A1 l1.length l1) (hc1 : l1.length ≤ c1) (h : slices_Equal_int_int.f k l0 l1 = some r) :
    Calls Try.prog 38 #[.slice A0 l0.length c0, .slice A1 l1.length c1] w fun e w' => e = .returned (.bool r) ∧ Drawn0 w w' := by
  have HR0 := Aside0.mk hr0
  have HC0 := Aside0.mk hc0
  clear hr0 hc0
  have HR1 := Aside0.mk hr1
  have HC1 := Aside0.mk hc1
  clear hr1 hc1
  have H : (if (l0.length : Int) = (l1.length : Int) then (slices_Equal_int_int.l0 k l0 l1 (l0.length : Int) 0) else (some false)) = some r := h
  clear h
  by_cases c3 : (l0.length : Int) = (l1.length : Int)
  · rw [if_pos c3] at H
    have c3b0 : ((l0.length : Int) == (l1.length : Int)) = true := beq_iff_eq.mpr c3
    have c3b1 : ((l0.length : Int) != (l1.length : Int)) = false := bne_eq_false_iff_eq.mpr c3
    have c3b2 : (l0.length == l1.length) = true := by first | simpa using c3 | (simp at c3 ⊢; omega)
    clear c3
    have H' := Aside0.mk H
    clear H
    go_enter Try.func38, Try.ntmps38
    go_wp2
    repeat (go_quiet (fail); try go_wp2)
    go_loopg [13] k (fun kq v13 w' => ∃ (x13_1 : Int), v13 = .int .i64 x13_1 ∧ Aside0 (slices_Equal_int_int.l0 kq l0 l1 (l0.length : Int) x13_1 = some r) ∧ Aside0 (kq ≤ k) ∧ Drawn0 w w')
    case atStart => exact ⟨(0), (by first | rfl | (simp; done) | (simp [*]; done)), H', ⟨Nat.le_refl _⟩, by repeat (first | exact Drawn0.refl _ | apply Drawn0.step)⟩
    case round =>
      clear H'
      try clear c1
      try clear p2
      try clear c3
      try clear c3b0
      try clear c3b1
      try clear c3b2
      obtain ⟨x13_1, rfl, HA, HK1, ⟨m1, rfl⟩⟩ := hrel
      cases gk with
      | zero => exact absurd HA.out (by simp [slices_Equal_int_int.l0])
      | succ k1 =>
        have H := HA.out
        clear HA
        simp only [slices_Equal_int_int.l0] at H
        by_cases c4 : x13_1 < (l0.length : Int)
        · rw [if_pos c4] at H
          have c4b0 : decide (x13_1 < (l0.length : Int)) = true := decide_eq_true c4
          clear c4
          by_cases c5 : 0 ≤ x13_1
          · rw [if_pos c5] at H
            have c5b0 : decide (0 ≤ x13_1) = true := decide_eq_true c5
            clear c5
            by_cases c6 : x13_1 < (l0.length : Int)
            · rw [if_pos c6] at H
              have c6b0 : decide (x13_1 < (l0.length : Int)) = true := decide_eq_true c6
              clear c6
              by_cases c7 : x13_1 < (l1.length : Int)
              · rw [if_pos c7] at H
                have c7b0 : decide (x13_1 < (l1.length : Int)) = true := decide_eq_true c7
                clear c7
                by_cases c8 : (rd l0 x13_1) = (rd l1 x13_1)
                · rw [if_pos c8] at H
                  have c8b0 : ((rd l0 x13_1) == (rd l1 x13_1)) = true := beq_iff_eq.mpr c8
                  have c8b1 : ((rd l0 x13_1) != (rd l1 x13_1)) = false := bne_eq_false_iff_eq.mpr c8
                  clear c8
                  have H' := Aside0.mk H
                  clear H
                  have p225 : 0 ≤ (x13_1 : Int) := of_decide_eq_true (by first | (with_reducible assumption) | assumption)
                  have q225 : x13_1 < (l0.length : Int) := of_decide_eq_true (by first | (with_reducible assumption) | assumption)
                  obtain ⟨ad225, e225, hx225_0⟩ := Kd.at_int HR0.out x13_1 p225 q225
                  cases e225
                  replace p225 := eq_true p225
                  replace q225 := eq_true q225
                  have p226 : 0 ≤ (x13_1 : Int) := of_decide_eq_true (by first | (with_reducible assumption) | assumption)
                  have q226 : x13_1 < (l1.length : Int) := of_decide_eq_true (by first | (with_reducible assumption) | assumption)
                  obtain ⟨ad226, e226, hx226_0⟩ := Kd.at_int HR1.out x13_1 p226 q226
                  cases e226
                  replace p226 := eq_true p226
                  replace q226 := eq_true q226
                  go_wp2
                  repeat (go_quiet (fail); try go_wp2)
                  go_roundg k1
                  case measure => have := HK1.out; omega
                  case rel => exact ⟨(wrap64 (x13_1 + 1)), (by first | rfl | (simp; done) | (simp [*]; done)), H', ⟨by have := HK1.out; omega⟩, by repeat (first | exact Drawn0.refl _ | apply Drawn0.step)⟩
                · rw [if_neg c8] at H
                  have c8b0 : ((rd l0 x13_1) == (rd l1 x13_1)) = false := beq_eq_false_iff_ne.mpr c8
                  have c8b1 : ((rd l0 x13_1) != (rd l1 x13_1)) = true := bne_iff_ne.mpr c8
                  obtain rfl := Option.some.inj H
                  have p225 : 0 ≤ (x13_1 : Int) := of_decide_eq_true (by first | (with_reducible assumption) | assumption)
                  have q225 : x13_1 < (l0.length : Int) := of_decide_eq_true (by first | (with_reducible assumption) | assumption)
                  obtain ⟨ad225, e225, hx225_0⟩ := Kd.at_int HR0.out x13_1 p225 q225
                  cases e225
                  replace p225 := eq_true p225
                  replace q225 := eq_true q225
                  have p226 : 0 ≤ (x13_1 : Int) := of_decide_eq_true (by first | (with_reducible assumption) | assumption)
                  have q226 : x13_1 < (l1.length : Int) := of_decide_eq_true (by first | (with_reducible assumption) | assumption)
                  obtain ⟨ad226, e226, hx226_0⟩ := Kd.at_int HR1.out x13_1 p226 q226
                  cases e226
                  replace p226 := eq_true p226
                  replace q226 := eq_true q226
                  go_wp2
                  repeat (go_quiet (fail); try go_wp2)
                  go_ret
                  exact ⟨by first | rfl | (simp; done) | (simp [*]; done), by repeat (first | exact Drawn0.refl _ | apply Drawn0.step)⟩
              · rw [if_neg c7] at H
                exact absurd H (by simp)
            · rw [if_neg c6] at H
              exact absurd H (by simp)
          · rw [if_neg c5] at H
            exact absurd H (by simp)
        · rw [if_neg c4] at H
          have c4b0 : decide (x13_1 < (l0.length : Int)) = false := decide_eq_false c4
          clear c4
          obtain rfl := Option.some.inj H
          go_wp2
          repeat (go_quiet (fail); try go_wp2)
          go_ret
          exact ⟨by first | rfl | (simp; done) | (simp [*]; done), by repeat (first | exact Drawn0.refl _ | apply Drawn0.step)⟩
  · rw [if_neg c3] at H
    have c3b0 : ((l0.length : Int) == (l1.length : Int)) = false := beq_eq_false_iff_ne.mpr c3
    have c3b1 : ((l0.length : Int) != (l1.length : Int)) = true := bne_iff_ne.mpr c3
    have c3b2 : (l0.length == l1.length) = false := by first | simpa using c3 | (simp at c3 ⊢; omega)
    obtain rfl := Option.some.inj H
    go_enter Try.func38, Try.ntmps38
    go_wp2
    repeat (go_quiet (fail); try go_wp2)
    go_ret
    exact ⟨by first | rfl | (simp; done) | (simp [*]; done), by repeat (first | exact Drawn0.refl _ | apply Drawn0.step)⟩
def backstepref12_Valid.l0 : Nat → List (S48) → Int → Int → Int → Int → Option (Bool)
  | 0, _, _, _, _, _ => none
  | k + 1, x0, x1, x2, x3, x9 => if x9 < (x0.length : Int) then (if 0 ≤ x9 then (if ((rd_T48 x0 x9).f1) < 1 then (some false) else (if ((rd_T48 x0 x9).f1) > 3 then (some false) else (if ((rd_T48 x0 x9).f1) = 2 then (if ((rd_T48 x0 x9).f2) < 1 then (some false) else (if ((rd_T48 x0 x9).f2) > 16 then (some false) else (backstepref12_Valid.l0 k x0 x1 x2 x3 (wrap64 (x9 + 1))))) else (if ((rd_T48 x0 x9).f2) = 0 then (backstepref12_Valid.l0 k x0 x1 x2 x3 (wrap64 (x9 + 1))) else (some false))))) else (none)) else (if x1 ≥ 0 then (if x1 ≤ 1000 then (if x2 ≥ 0 then (if x2 ≤ 1000 then (if x3 ≥ 0 then (some (decide (x3 ≤ 1000))) else (some false)) else (some false)) else (some false)) else (some false)) else (some false))
def backstepref12_Valid.f (k : Nat) (l0 : List (S48)) (a1 : Int) (a2 : Int) (a3 : Int) : Option (Bool) := if (l0.length : Int) > 32 then (some false) else (backstepref12_Valid.l0 k l0 a1 a2 a3 0)
theorem backstepref12_Valid.mono_l : ∀ k, (∀ y0 y1 y2 y3 y4, LeO (backstepref12_Valid.l0 k y0 y1 y2 y3 y4) (backstepref12_Valid.l0 (k + 1) y0 y1 y2 y3 y4))
  | 0 => fun _ _ _ _ _ r h => by simp [backstepref12_Valid.l0] at h
  | k + 1 => by
    have ih0 := backstepref12_Valid.mono_l k
    · intro y0 y1 y2 y3 y4
      unfold backstepref12_Valid.l0
      repeat' first
      | (with_reducible exact ih0 _ _ _ _ _)
      | (with_reducible exact LeO.refl _)
      | (with_reducible exact LeO.none _)
      | (with_reducible refine LeO.ite ?_ ?_)
      | (with_reducible refine LeO.bind ?_ (fun _ => ?_))
      | exact ih0 _ _ _ _ _
      | exact LeO.none _
      | refine LeO.ite ?_ ?_
      | refine LeO.bind ?_ (fun _ => ?_)
theorem backstepref12_Valid.mono : ∀ a0 a1 a2 a3 k, LeO (backstepref12_Valid.f k a0 a1 a2 a3) (backstepref12_Valid.f (k + 1) a0 a1 a2 a3) := by
  intro a0 a1 a2 a3 k
  have ih0 := backstepref12_Valid.mono_l k
  unfold backstepref12_Valid.f
  repeat' first
      | (with_reducible exact ih0 _ _ _ _ _)
      | (with_reducible exact LeO.refl _)
      | (with_reducible exact LeO.none _)
      | (with_reducible refine LeO.ite ?_ ?_)
      | (with_reducible refine LeO.bind ?_ (fun _ => ?_))
      | exact ih0 _ _ _ _ _
      | exact LeO.none _
      | refine LeO.ite ?_ ?_
      | refine LeO.bind ?_ (fun _ => ?_)
set_option maxHeartbeats 8000000 in
set_option maxRecDepth 100000 in
theorem backstepref12_Valid.calls (k : Nat) (A0 : Option Addr) (c0 : Nat) (l0 : List (S48)) (a1 : Int) (a2 : Int) (a3 : Int) (r : Bool) (w : World) (hr0 : Kd.C k48 w A0 l0.length l0) (hc0 : l0.length ≤ c0) (h : backstepref12_Valid.f k l0 a1 a2 a3 = some r) :
    Calls Try.prog 27 #[.slice A0 l0.length c0, .int .i64 a1, .int .i64 a2, .int .i64 a3] w fun e w' => e = .returned (.bool r) ∧ Below w.heap.size w w' := by
  have hu48 := Try.underlying48
  have HR0 := Aside0.mk hr0
  have HC0 := Aside0.mk hc0
  clear hr0 hc0
  have HB := Aside0.mk (Below.refl w.heap.size w)
  have H : (if (l0.length : Int) > 32 then (some false) else (backstepref12_Valid.l0 k l0 a1 a2 a3 0)) = some r := h
  clear h
  by_cases c5 : (l0.length : Int) > 32
  · rw [if_pos c5] at H
    have c5b0 : decide (32 < (l0.length : Int)) = true := decide_eq_true c5
    have c5b1 : decide (32 < l0.length) = true := decide_eq_true (by omega)
    clear c5
    obtain rfl := Option.some.inj H
    go_enter Try.func27, Try.ntmps27
    go_wp2
    go_ret
    exact ⟨by first | rfl | (simp [errW_none, errW_some] <;> rfl) | (simp [*, errW_none, errW_some] <;> rfl), by repeat (first | (with_reducible first | exact HB.out | apply below_alloc | apply pw_below_drewN | apply below_drew1) | exact HB.out)⟩
  · rw [if_neg c5] at H
    have c5b0 : decide (32 < (l0.length : Int)) = false := decide_eq_false c5
    have c5b1 : decide (32 < l0.length) = false := decide_eq_false (by omega)
    clear c5
    have H' := Aside0.mk H
    clear H
    go_enter Try.func27, Try.ntmps27
    go_wp2
    go_loopg [9] k (fun kq v9 w' => ∃ (x9_1 : Int), v9 = .int .i64 x9_1 ∧ Aside0 (backstepref12_Valid.l0 kq l0 a1 a2 a3 x9_1 = some r) ∧ Aside0 (kq ≤ k) ∧ Aside0 (Below w.heap.size w w'))
    case atStart => exact ⟨(0), (by first | rfl | (simp; done) | (simp [*]; done)), H', ⟨Nat.le_refl _⟩, ⟨by repeat (first | (with_reducible first | exact HB.out | apply below_alloc | apply pw_below_drewN | apply below_drew1) | exact HB.out)⟩⟩
    case round =>
      clear H'
      try clear c2
      try clear p2
      try clear c5
      try clear c5b0
      try clear c5b1
      obtain ⟨x9_1, rfl, HA, HK1, HB⟩ := hrel
      cases gk with
      | zero => exact absurd HA.out (by simp [backstepref12_Valid.l0])
      | succ k1 =>
        have H := HA.out
        clear HA
        simp only [backstepref12_Valid.l0] at H
        by_cases c6 : x9_1 < (l0.length : Int)
        · rw [if_pos c6] at H
          have c6b0 : decide (x9_1 < (l0.length : Int)) = true := decide_eq_true c6
          clear c6
          by_cases c7 : 0 ≤ x9_1
          · rw [if_pos c7] at H
            have c7b0 : decide (0 ≤ x9_1) = true := decide_eq_true c7
            clear c7
            by_cases c8 : ((rd_T48 l0 x9_1).f1) < 1
            · rw [if_pos c8] at H
              have c8b0 : decide (((rd_T48 l0 x9_1).f1) < 1) = true := decide_eq_true c8
              clear c8
              obtain rfl := Option.some.inj H
              have p232 : 0 ≤ (x9_1 : Int) := of_decide_eq_true (by first | (with_reducible assumption) | assumption)
              have q232 : x9_1 < (l0.length : Int) := of_decide_eq_true (by first | (with_reducible assumption) | assumption)
              obtain ⟨ad232, e232, hx232_0, hx232_1, hx232_2⟩ := at_T48 HR0.out x9_1 p232 q232
              cases e232
              replace hx232_0 := (HB.out.cell (World.block_lt_of_cell? w _ hx232_0)).trans hx232_0
              replace hx232_1 := (HB.out.cell (World.block_lt_of_cell? w _ hx232_1)).trans hx232_1
              replace hx232_2 := (HB.out.cell (World.block_lt_of_cell? w _ hx232_2)).trans hx232_2
              replace p232 := eq_true p232
              replace q232 := eq_true q232
              go_wp2_with (first | ((with_reducible refine gate_dst (N := 10) rfl ?_); refine box_event ?hg (N := 10) ?hd (cs := #[.string (⟨#[]⟩ : ByteArray), .int .u8 0, .int .i64 0]) (t := 48) ?hr ?_; (case hd => rfl); (case hg => rfl); (case hr => first | (go_simp; done) | (go_simp; rfl)); intro gb233 hg w9 hbox hb; have n0_ := Aside0.mk (below_step (by repeat (first | (with_reducible first | exact HB.out | apply below_alloc | apply pw_below_drewN | apply below_drew1) | exact HB.out)) hb); have n1_ := Aside0.mk (hbox); have n2_ := Aside0.mk ((by rw [hg]; exact (below_size (by repeat (first | (with_reducible first | exact HB.out | apply below_alloc | apply pw_below_drewN | apply below_drew1) | exact HB.out))) : w.heap.size ≤ gb233)); have n3_ := Aside0.mk ((by rw [hg]; exact (below_size (by repeat (first | (with_reducible first | exact HB.out | apply below_alloc | apply pw_below_drewN | apply below_drew1) | exact HB.out))) : w.heap.size ≤ gb233)); clear HB; have HB := n0_; have BK233 := n1_; have GW233 := n2_; have GE233 := n3_; clear n0_ n1_ n2_ n3_; clear hb hbox hg; have hcz10_0 : w9.cell? ⟨gb233, 0, none⟩ = some (.string (⟨#[]⟩ : ByteArray)) := (blk_cell BK233.out 0).trans rfl; have hcz10_1 : w9.cell? ⟨gb233, 1, none⟩ = some (.int .u8 0) := (blk_cell BK233.out 1).trans rfl; have hcz10_2 : w9.cell? ⟨gb233, 2, none⟩ = some (.int .i64 0) := (blk_cell BK233.out 2).trans rfl; have hfz10_0 := blk_frozen BK233.out 0; have hfz10_1 := blk_frozen BK233.out 1; have hfz10_2 := blk_frozen BK233.out 2))
              go_ret
              exact ⟨by first | rfl | (simp [errW_none, errW_some] <;> rfl) | (simp [*, errW_none, errW_some] <;> rfl), by repeat (first | (with_reducible first | exact HB.out | apply below_alloc | apply pw_below_drewN | apply below_drew1 | refine below_set ?_ GE233.out) | exact HB.out)⟩
            · rw [if_neg c8] at H
              have c8b0 : decide (((rd_T48 l0 x9_1).f1) < 1) = false := decide_eq_false c8
              clear c8
              by_cases c11 : ((rd_T48 l0 x9_1).f1) > 3
              · rw [if_pos c11] at H
                have c11b0 : decide (3 < ((rd_T48 l0 x9_1).f1)) = true := decide_eq_true c11
                clear c11
                obtain rfl := Option.some.inj H
                have p232 : 0 ≤ (x9_1 : Int) := of_decide_eq_true (by first | (with_reducible assumption) | assumption)
                have q232 : x9_1 < (l0.length : Int) := of_decide_eq_true (by first | (with_reducible assumption) | assumption)
                obtain ⟨ad232, e232, hx232_0, hx232_1, hx232_2⟩ := at_T48 HR0.out x9_1 p232 q232
                cases e232
                replace hx232_0 := (HB.out.cell (World.block_lt_of_cell? w _ hx232_0)).trans hx232_0
                replace hx232_1 := (HB.out.cell (World.block_lt_of_cell? w _ hx232_1)).trans hx232_1
                replace hx232_2 := (HB.out.cell (World.block_lt_of_cell? w _ hx232_2)).trans hx232_2
                replace p232 := eq_true p232
                replace q232 := eq_true q232
                go_wp2_with (first | ((with_reducible refine gate_dst (N := 10) rfl ?_); refine box_event ?hg (N := 10) ?hd (cs := #[.string (⟨#[]⟩ : ByteArray), .int .u8 0, .int .i64 0]) (t := 48) ?hr ?_; (case hd => rfl); (case hg => rfl); (case hr => first | (go_simp; done) | (go_simp; rfl)); intro gb233 hg w12 hbox hb; have n0_ := Aside0.mk (below_step (by repeat (first | (with_reducible first | exact HB.out | apply below_alloc | apply pw_below_drewN | apply below_drew1) | exact HB.out)) hb); have n1_ := Aside0.mk (hbox); have n2_ := Aside0.mk ((by rw [hg]; exact (below_size (by repeat (first | (with_reducible first | exact HB.out | apply below_alloc | apply pw_below_drewN | apply below_drew1) | exact HB.out))) : w.heap.size ≤ gb233)); have n3_ := Aside0.mk ((by rw [hg]; exact (below_size (by repeat (first | (with_reducible first | exact HB.out | apply below_alloc | apply pw_below_drewN | apply below_drew1) | exact HB.out))) : w.heap.size ≤ gb233)); clear HB; have HB := n0_; have BK233 := n1_; have GW233 := n2_; have GE233 := n3_; clear n0_ n1_ n2_ n3_; clear hb hbox hg; have hcz13_0 : w12.cell? ⟨gb233, 0, none⟩ = some (.string (⟨#[]⟩ : ByteArray)) := (blk_cell BK233.out 0).trans rfl; have hcz13_1 : w12.cell? ⟨gb233, 1, none⟩ = some (.int .u8 0) := (blk_cell BK233.out 1).trans rfl; have hcz13_2 : w12.cell? ⟨gb233, 2, none⟩ = some (.int .i64 0) := (blk_cell BK233.out 2).trans rfl; have hfz13_0 := blk_frozen BK233.out 0; have hfz13_1 := blk_frozen BK233.out 1; have hfz13_2 := blk_frozen BK233.out 2))
                go_ret
                exact ⟨by first | rfl | (simp [errW_none, errW_some] <;> rfl) | (simp [*, errW_none, errW_some] <;> rfl), by repeat (first | (with_reducible first | exact HB.out | apply below_alloc | apply pw_below_drewN | apply below_drew1 | refine below_set ?_ GE233.out) | exact HB.out)⟩
              · rw [if_neg c11] at H
                have c11b0 : decide (3 < ((rd_T48 l0 x9_1).f1)) = false := decide_eq_false c11
                clear c11
                by_cases c14 : ((rd_T48 l0 x9_1).f1) = 2
                · rw [if_pos c14] at H
                  have c14b0 : (((rd_T48 l0 x9_1).f1) == 2) = true := beq_iff_eq.mpr c14
                  have c14b1 : (((rd_T48 l0 x9_1).f1) != 2) = false := bne_eq_false_iff_eq.mpr c14
                  clear c14
                  by_cases c15 : ((rd_T48 l0 x9_1).f2) < 1
                  · rw [if_pos c15] at H
                    have c15b0 : decide (((rd_T48 l0 x9_1).f2) < 1) = true := decide_eq_true c15
                    clear c15
                    obtain rfl := Option.some.inj H
                    have p232 : 0 ≤ (x9_1 : Int) := of_decide_eq_true (by first | (with_reducible assumption) | assumption)
                    have q232 : x9_1 < (l0.length : Int) := of_decide_eq_true (by first | (with_reducible assumption) | assumption)
                    obtain ⟨ad232, e232, hx232_0, hx232_1, hx232_2⟩ := at_T48 HR0.out x9_1 p232 q232
                    cases e232
                    replace hx232_0 := (HB.out.cell (World.block_lt_of_cell? w _ hx232_0)).trans hx232_0
                    replace hx232_1 := (HB.out.cell (World.block_lt_of_cell? w _ hx232_1)).trans hx232_1
                    replace hx232_2 := (HB.out.cell (World.block_lt_of_cell? w _ hx232_2)).trans hx232_2
                    replace p232 := eq_true p232
                    replace q232 := eq_true q232
                    go_wp2_with (first | ((with_reducible refine gate_dst (N := 10) rfl ?_); refine box_event ?hg (N := 10) ?hd (cs := #[.string (⟨#[]⟩ : ByteArray), .int .u8 0, .int .i64 0]) (t := 48) ?hr ?_; (case hd => rfl); (case hg => rfl); (case hr => first | (go_simp; done) | (go_simp; rfl)); intro gb233 hg w16 hbox hb; have n0_ := Aside0.mk (below_step (by repeat (first | (with_reducible first | exact HB.out | apply below_alloc | apply pw_below_drewN | apply below_drew1) | exact HB.out)) hb); have n1_ := Aside0.mk (hbox); have n2_ := Aside0.mk ((by rw [hg]; exact (below_size (by repeat (first | (with_reducible first | exact HB.out | apply below_alloc | apply pw_below_drewN | apply below_drew1) | exact HB.out))) : w.heap.size ≤ gb233)); have n3_ := Aside0.mk ((by rw [hg]; exact (below_size (by repeat (first | (with_reducible first | exact HB.out | apply below_alloc | apply pw_below_drewN | apply below_drew1) | exact HB.out))) : w.heap.size ≤ gb233)); clear HB; have HB := n0_; have BK233 := n1_; have GW233 := n2_; have GE233 := n3_; clear n0_ n1_ n2_ n3_; clear hb hbox hg; have hcz17_0 : w16.cell? ⟨gb233, 0, none⟩ = some (.string (⟨#[]⟩ : ByteArray)) := (blk_cell BK233.out 0).trans rfl; have hcz17_1 : w16.cell? ⟨gb233, 1, none⟩ = some (.int .u8 0) := (blk_cell BK233.out 1).trans rfl; have hcz17_2 : w16.cell? ⟨gb233, 2, none⟩ = some (.int .i64 0) := (blk_cell BK233.out 2).trans rfl; have hfz17_0 := blk_frozen BK233.out 0; have hfz17_1 := blk_frozen BK233.out 1; have hfz17_2 := blk_frozen BK233.out 2))
                    go_ret
                    exact ⟨by first | rfl | (simp [errW_none, errW_some] <;> rfl) | (simp [*, errW_none, errW_some] <;> rfl), by repeat (first | (with_reducible first | exact HB.out | apply below_alloc | apply pw_below_drewN | apply below_drew1 | refine below_set ?_ GE233.out) | exact HB.out)⟩
                  · rw [if_neg c15] at H
                    have c15b0 : decide (((rd_T48 l0 x9_1).f2) < 1) = false := decide_eq_false c15
                    clear c15
                    by_cases c18 : ((rd_T48 l0 x9_1).f2) > 16
                    · rw [if_pos c18] at H
                      have c18b0 : decide (16 < ((rd_T48 l0 x9_1).f2)) = true := decide_eq_true c18
                      clear c18
                      obtain rfl := Option.some.inj H
                      have p232 : 0 ≤ (x9_1 : Int) := of_decide_eq_true (by first | (with_reducible assumption) | assumption)
                      have q232 : x9_1 < (l0.length : Int) := of_decide_eq_true (by first | (with_reducible assumption) | assumption)
                      obtain ⟨ad232, e232, hx232_0, hx232_1, hx232_2⟩ := at_T48 HR0.out x9_1 p232 q232
                      cases e232
                      replace hx232_0 := (HB.out.cell (World.block_lt_of_cell? w _ hx232_0)).trans hx232_0
                      replace hx232_1 := (HB.out.cell (World.block_lt_of_cell? w _ hx232_1)).trans hx232_1
                      replace hx232_2 := (HB.out.cell (World.block_lt_of_cell? w _ hx232_2)).trans hx232_2
                      replace p232 := eq_true p232
                      replace q232 := eq_true q232
                      go_wp2_with (first | ((with_reducible refine gate_dst (N := 10) rfl ?_); refine box_event ?hg (N := 10) ?hd (cs := #[.string (⟨#[]⟩ : ByteArray), .int .u8 0, .int .i64 0]) (t := 48) ?hr ?_; (case hd => rfl); (case hg => rfl); (case hr => first | (go_simp; done) | (go_simp; rfl)); intro gb233 hg w19 hbox hb; have n0_ := Aside0.mk (below_step (by repeat (first | (with_reducible first | exact HB.out | apply below_alloc | apply pw_below_drewN | apply below_drew1) | exact HB.out)) hb); have n1_ := Aside0.mk (hbox); have n2_ := Aside0.mk ((by rw [hg]; exact (below_size (by repeat (first | (with_reducible first | exact HB.out | apply below_alloc | apply pw_below_drewN | apply below_drew1) | exact HB.out))) : w.heap.size ≤ gb233)); have n3_ := Aside0.mk ((by rw [hg]; exact (below_size (by repeat (first | (with_reducible first | exact HB.out | apply below_alloc | apply pw_below_drewN | apply below_drew1) | exact HB.out))) : w.heap.size ≤ gb233)); clear HB; have HB := n0_; have BK233 := n1_; have GW233 := n2_; have GE233 := n3_; clear n0_ n1_ n2_ n3_; clear hb hbox hg; have hcz20_0 : w19.cell? ⟨gb233, 0, none⟩ = some (.string (⟨#[]⟩ : ByteArray)) := (blk_cell BK233.out 0).trans rfl; have hcz20_1 : w19.cell? ⟨gb233, 1, none⟩ = some (.int .u8 0) := (blk_cell BK233.out 1).trans rfl; have hcz20_2 : w19.cell? ⟨gb233, 2, none⟩ = some (.int .i64 0) := (blk_cell BK233.out 2).trans rfl; have hfz20_0 := blk_frozen BK233.out 0; have hfz20_1 := blk_frozen BK233.out 1; have hfz20_2 := blk_frozen BK233.out 2))
                      go_ret
                      exact ⟨by first | rfl | (simp [errW_none, errW_some] <;> rfl) | (simp [*, errW_none, errW_some] <;> rfl), by repeat (first | (with_reducible first | exact HB.out | apply below_alloc | apply pw_below_drewN | apply below_drew1 | refine below_set ?_ GE233.out) | exact HB.out)⟩
                    · rw [if_neg c18] at H
                      have c18b0 : decide (16 < ((rd_T48 l0 x9_1).f2)) = false := decide_eq_false c18
                      clear c18
                      have H' := Aside0.mk H
                      clear H
                      have p232 : 0 ≤ (x9_1 : Int) := of_decide_eq_true (by first | (with_reducible assumption) | assumption)
                      have q232 : x9_1 < (l0.length : Int) := of_decide_eq_true (by first | (with_reducible assumption) | assumption)
                      obtain ⟨ad232, e232, hx232_0, hx232_1, hx232_2⟩ := at_T48 HR0.out x9_1 p232 q232
                      cases e232
                      replace hx232_0 := (HB.out.cell (World.block_lt_of_cell? w _ hx232_0)).trans hx232_0
                      replace hx232_1 := (HB.out.cell (World.block_lt_of_cell? w _ hx232_1)).trans hx232_1
                      replace hx232_2 := (HB.out.cell (World.block_lt_of_cell? w _ hx232_2)).trans hx232_2
                      replace p232 := eq_true p232
                      replace q232 := eq_true q232
                      go_wp2_with (first | ((with_reducible refine gate_dst (N := 10) rfl ?_); refine box_event ?hg (N := 10) ?hd (cs := #[.string (⟨#[]⟩ : ByteArray), .int .u8 0, .int .i64 0]) (t := 48) ?hr ?_; (case hd => rfl); (case hg => rfl); (case hr => first | (go_simp; done) | (go_simp; rfl)); intro gb233 hg w21 hbox hb; have n0_ := Aside0.mk (below_step (by repeat (first | (with_reducible first | exact HB.out | apply below_alloc | apply pw_below_drewN | apply below_drew1) | exact HB.out)) hb); have n1_ := Aside0.mk (hbox); have n2_ := Aside0.mk ((by rw [hg]; exact (below_size (by repeat (first | (with_reducible first | exact HB.out | apply below_alloc | apply pw_below_drewN | apply below_drew1) | exact HB.out))) : w.heap.size ≤ gb233)); have n3_ := Aside0.mk ((by rw [hg]; exact (below_size (by repeat (first | (with_reducible first | exact HB.out | apply below_alloc | apply pw_below_drewN | apply below_drew1) | exact HB.out))) : w.heap.size ≤ gb233)); clear HB; have HB := n0_; have BK233 := n1_; have GW233 := n2_; have GE233 := n3_; clear n0_ n1_ n2_ n3_; clear hb hbox hg; have hcz22_0 : w21.cell? ⟨gb233, 0, none⟩ = some (.string (⟨#[]⟩ : ByteArray)) := (blk_cell BK233.out 0).trans rfl; have hcz22_1 : w21.cell? ⟨gb233, 1, none⟩ = some (.int .u8 0) := (blk_cell BK233.out 1).trans rfl; have hcz22_2 : w21.cell? ⟨gb233, 2, none⟩ = some (.int .i64 0) := (blk_cell BK233.out 2).trans rfl; have hfz22_0 := blk_frozen BK233.out 0; have hfz22_1 := blk_frozen BK233.out 1; have hfz22_2 := blk_frozen BK233.out 2))
                      go_roundg k1
                      case measure => have := HK1.out; omega
                      case rel => exact ⟨(wrap64 (x9_1 + 1)), (by first | rfl | (simp; done) | (simp [*]; done)), H', ⟨by have := HK1.out; omega⟩, ⟨by repeat (first | (with_reducible first | exact HB.out | apply below_alloc | apply pw_below_drewN | apply below_drew1 | refine below_set ?_ GE233.out) | exact HB.out)⟩⟩
                · rw [if_neg c14] at H
                  have c14b0 : (((rd_T48 l0 x9_1).f1) == 2) = false := beq_eq_false_iff_ne.mpr c14
                  have c14b1 : (((rd_T48 l0 x9_1).f1) != 2) = true := bne_iff_ne.mpr c14
                  by_cases c23 : ((rd_T48 l0 x9_1).f2) = 0
                  · rw [if_pos c23] at H
                    have c23b0 : (((rd_T48 l0 x9_1).f2) == 0) = true := beq_iff_eq.mpr c23
                    have c23b1 : (((rd_T48 l0 x9_1).f2) != 0) = false := bne_eq_false_iff_eq.mpr c23
                    clear c23
                    have H' := Aside0.mk H
                    clear H
                    have p232 : 0 ≤ (x9_1 : Int) := of_decide_eq_true (by first | (with_reducible assumption) | assumption)
                    have q232 : x9_1 < (l0.length : Int) := of_decide_eq_true (by first | (with_reducible assumption) | assumption)
                    obtain ⟨ad232, e232, hx232_0, hx232_1, hx232_2⟩ := at_T48 HR0.out x9_1 p232 q232
                    cases e232
                    replace hx232_0 := (HB.out.cell (World.block_lt_of_cell? w _ hx232_0)).trans hx232_0
                    replace hx232_1 := (HB.out.cell (World.block_lt_of_cell? w _ hx232_1)).trans hx232_1
                    replace hx232_2 := (HB.out.cell (World.block_lt_of_cell? w _ hx232_2)).trans hx232_2
                    replace p232 := eq_true p232
                    replace q232 := eq_true q232
                    go_wp2_with (first | ((with_reducible refine gate_dst (N := 10) rfl ?_); refine box_event ?hg (N := 10) ?hd (cs := #[.string (⟨#[]⟩ : ByteArray), .int .u8 0, .int .i64 0]) (t := 48) ?hr ?_; (case hd => rfl); (case hg => rfl); (case hr => first | (go_simp; done) | (go_simp; rfl)); intro gb233 hg w24 hbox hb; have n0_ := Aside0.mk (below_step (by repeat (first | (with_reducible first | exact HB.out | apply below_alloc | apply pw_below_drewN | apply below_drew1) | exact HB.out)) hb); have n1_ := Aside0.mk (hbox); have n2_ := Aside0.mk ((by rw [hg]; exact (below_size (by repeat (first | (with_reducible first | exact HB.out | apply below_alloc | apply pw_below_drewN | apply below_drew1) | exact HB.out))) : w.heap.size ≤ gb233)); have n3_ := Aside0.mk ((by rw [hg]; exact (below_size (by repeat (first | (with_reducible first | exact HB.out | apply below_alloc | apply pw_below_drewN | apply below_drew1) | exact HB.out))) : w.heap.size ≤ gb233)); clear HB; have HB := n0_; have BK233 := n1_; have GW233 := n2_; have GE233 := n3_; clear n0_ n1_ n2_ n3_; clear hb hbox hg; have hcz25_0 : w24.cell? ⟨gb233, 0, none⟩ = some (.string (⟨#[]⟩ : ByteArray)) := (blk_cell BK233.out 0).trans rfl; have hcz25_1 : w24.cell? ⟨gb233, 1, none⟩ = some (.int .u8 0) := (blk_cell BK233.out 1).trans rfl; have hcz25_2 : w24.cell? ⟨gb233, 2, none⟩ = some (.int .i64 0) := (blk_cell BK233.out 2).trans rfl; have hfz25_0 := blk_frozen BK233.out 0; have hfz25_1 := blk_frozen BK233.out 1; have hfz25_2 := blk_frozen BK233.out 2))
                    go_roundg k1
                    case measure => have := HK1.out; omega
                    case rel => exact ⟨(wrap64 (x9_1 + 1)), (by first | rfl | (simp; done) | (simp [*]; done)), H', ⟨by have := HK1.out; omega⟩, ⟨by repeat (first | (with_reducible first | exact HB.out | apply below_alloc | apply pw_below_drewN | apply below_drew1 | refine below_set ?_ GE233.out) | exact HB.out)⟩⟩
                  · rw [if_neg c23] at H
                    have c23b0 : (((rd_T48 l0 x9_1).f2) == 0) = false := beq_eq_false_iff_ne.mpr c23
                    have c23b1 : (((rd_T48 l0 x9_1).f2) != 0) = true := bne_iff_ne.mpr c23
                    obtain rfl := Option.some.inj H
                    have p232 : 0 ≤ (x9_1 : Int) := of_decide_eq_true (by first | (with_reducible assumption) | assumption)
                    have q232 : x9_1 < (l0.length : Int) := of_decide_eq_true (by first | (with_reducible assumption) | assumption)
                    obtain ⟨ad232, e232, hx232_0, hx232_1, hx232_2⟩ := at_T48 HR0.out x9_1 p232 q232
                    cases e232
                    replace hx232_0 := (HB.out.cell (World.block_lt_of_cell? w _ hx232_0)).trans hx232_0
                    replace hx232_1 := (HB.out.cell (World.block_lt_of_cell? w _ hx232_1)).trans hx232_1
                    replace hx232_2 := (HB.out.cell (World.block_lt_of_cell? w _ hx232_2)).trans hx232_2
                    replace p232 := eq_true p232
                    replace q232 := eq_true q232
                    go_wp2_with (first | ((with_reducible refine gate_dst (N := 10) rfl ?_); refine box_event ?hg (N := 10) ?hd (cs := #[.string (⟨#[]⟩ : ByteArray), .int .u8 0, .int .i64 0]) (t := 48) ?hr ?_; (case hd => rfl); (case hg => rfl); (case hr => first | (go_simp; done) | (go_simp; rfl)); intro gb233 hg w26 hbox hb; have n0_ := Aside0.mk (below_step (by repeat (first | (with_reducible first | exact HB.out | apply below_alloc | apply pw_below_drewN | apply below_drew1) | exact HB.out)) hb); have n1_ := Aside0.mk (hbox); have n2_ := Aside0.mk ((by rw [hg]; exact (below_size (by repeat (first | (with_reducible first | exact HB.out | apply below_alloc | apply pw_below_drewN | apply below_drew1) | exact HB.out))) : w.heap.size ≤ gb233)); have n3_ := Aside0.mk ((by rw [hg]; exact (below_size (by repeat (first | (with_reducible first | exact HB.out | apply below_alloc | apply pw_below_drewN | apply below_drew1) | exact HB.out))) : w.heap.size ≤ gb233)); clear HB; have HB := n0_; have BK233 := n1_; have GW233 := n2_; have GE233 := n3_; clear n0_ n1_ n2_ n3_; clear hb hbox hg; have hcz27_0 : w26.cell? ⟨gb233, 0, none⟩ = some (.string (⟨#[]⟩ : ByteArray)) := (blk_cell BK233.out 0).trans rfl; have hcz27_1 : w26.cell? ⟨gb233, 1, none⟩ = some (.int .u8 0) := (blk_cell BK233.out 1).trans rfl; have hcz27_2 : w26.cell? ⟨gb233, 2, none⟩ = some (.int .i64 0) := (blk_cell BK233.out 2).trans rfl; have hfz27_0 := blk_frozen BK233.out 0; have hfz27_1 := blk_frozen BK233.out 1; have hfz27_2 := blk_frozen BK233.out 2))
                    go_ret
                    exact ⟨by first | rfl | (simp [errW_none, errW_some] <;> rfl) | (simp [*, errW_none, errW_some] <;> rfl), by repeat (first | (with_reducible first | exact HB.out | apply below_alloc | apply pw_below_drewN | apply below_drew1 | refine below_set ?_ GE233.out) | exact HB.out)⟩
          · rw [if_neg c7] at H
            exact absurd H (by simp)
        · rw [if_neg c6] at H
          have c6b0 : decide (x9_1 < (l0.length : Int)) = false := decide_eq_false c6
          clear c6
          by_cases c28 : a1 ≥ 0
          · rw [if_pos c28] at H
            have c28b0 : decide (0 ≤ a1) = true := decide_eq_true c28
            clear c28
            by_cases c29 : a1 ≤ 1000
            · rw [if_pos c29] at H
              have c29b0 : decide (a1 ≤ 1000) = true := decide_eq_true c29
              clear c29
              by_cases c30 : a2 ≥ 0
              · rw [if_pos c30] at H
                have c30b0 : decide (0 ≤ a2) = true := decide_eq_true c30
                clear c30
                by_cases c31 : a2 ≤ 1000
                · rw [if_pos c31] at H
                  have c31b0 : decide (a2 ≤ 1000) = true := decide_eq_true c31
                  clear c31
                  by_cases c32 : a3 ≥ 0
                  · rw [if_pos c32] at H
                    have c32b0 : decide (0 ≤ a3) = true := decide_eq_true c32
                    clear c32
                    obtain rfl := Option.some.inj H
                    go_wp2
                    go_ret
                    exact ⟨by first | rfl | (simp [errW_none, errW_some] <;> rfl) | (simp [*, errW_none, errW_some] <;> rfl), by repeat (first | (with_reducible first | exact HB.out | apply below_alloc | apply pw_below_drewN | apply below_drew1) | exact HB.out)⟩
                  · rw [if_neg c32] at H
                    have c32b0 : decide (0 ≤ a3) = false := decide_eq_false c32
                    clear c32
                    obtain rfl := Option.some.inj H
                    go_wp2
                    go_ret
                    exact ⟨by first | rfl | (simp [errW_none, errW_some] <;> rfl) | (simp [*, errW_none, errW_some] <;> rfl), by repeat (first | (with_reducible first | exact HB.out | apply below_alloc | apply pw_below_drewN | apply below_drew1) | exact HB.out)⟩
                · rw [if_neg c31] at H
                  have c31b0 : decide (a2 ≤ 1000) = false := decide_eq_false c31
                  clear c31
                  obtain rfl := Option.some.inj H
                  go_wp2
                  go_ret
                  exact ⟨by first | rfl | (simp [errW_none, errW_some] <;> rfl) | (simp [*, errW_none, errW_some] <;> rfl), by repeat (first | (with_reducible first | exact HB.out | apply below_alloc | apply pw_below_drewN | apply below_drew1) | exact HB.out)⟩
              · rw [if_neg c30] at H
                have c30b0 : decide (0 ≤ a2) = false := decide_eq_false c30
                clear c30
                obtain rfl := Option.some.inj H
                go_wp2
                go_ret
                exact ⟨by first | rfl | (simp [errW_none, errW_some] <;> rfl) | (simp [*, errW_none, errW_some] <;> rfl), by repeat (first | (with_reducible first | exact HB.out | apply below_alloc | apply pw_below_drewN | apply below_drew1) | exact HB.out)⟩
            · rw [if_neg c29] at H
              have c29b0 : decide (a1 ≤ 1000) = false := decide_eq_false c29
              clear c29
              obtain rfl := Option.some.inj H
              go_wp2
              go_ret
              exact ⟨by first | rfl | (simp [errW_none, errW_some] <;> rfl) | (simp [*, errW_none, errW_some] <;> rfl), by repeat (first | (with_reducible first | exact HB.out | apply below_alloc | apply pw_below_drewN | apply below_drew1) | exact HB.out)⟩
          · rw [if_neg c28] at H
            have c28b0 : decide (0 ≤ a1) = false := decide_eq_false c28
            clear c28
            obtain rfl := Option.some.inj H
            go_wp2
            go_ret
            exact ⟨by first | rfl | (simp [errW_none, errW_some] <;> rfl) | (simp [*, errW_none, errW_some] <;> rfl), by repeat (first | (with_reducible first | exact HB.out | apply below_alloc | apply pw_below_drewN | apply below_drew1) | exact HB.out)⟩
def backstepref12_times.f (a0 : Int) (a1 : Int) : Option (Int) := if a0 = 0 then (some (wrap64 (a0 * a1))) else (if a1 > (wrap64 ((1099511627776 : Int) / a0)) then (some 1099511627777) else (some (wrap64 (a0 * a1))))
set_option maxHeartbeats 8000000 in
set_option maxRecDepth 100000 in
theorem backstepref12_times.calls (a0 : Int) (a1 : Int) (r : Int) (w : World) (h : backstepref12_times.f a0 a1 = some r) :
    Calls Try.prog 46 #[.int .i64 a0, .int .i64 a1] w fun e w' => e = .returned (.int .i64 r) ∧ Drawn0 w w' := by
  have H : (if a0 = 0 then (some (wrap64 (a0 * a1))) else (if a1 > (wrap64 ((1099511627776 : Int) / a0)) then (some 1099511627777) else (some (wrap64 (a0 * a1))))) = some r := h
  clear h
  by_cases c3 : a0 = 0
  · rw [if_pos c3] at H
    have c3b0 : (a0 == 0) = true := beq_iff_eq.mpr c3
    have c3b1 : (a0 != 0) = false := bne_eq_false_iff_eq.mpr c3
    clear c3
    obtain rfl := Option.some.inj H
    go_enter Try.func46, Try.ntmps46
    go_wp2
    go_ret
    exact ⟨by first | rfl | (simp; done) | (simp [*]; done), by repeat (first | exact Drawn0.refl _ | apply Drawn0.step)⟩
  · rw [if_neg c3] at H
    have c3b0 : (a0 == 0) = false := beq_eq_false_iff_ne.mpr c3
    have c3b1 : (a0 != 0) = true := bne_iff_ne.mpr c3
    by_cases c4 : a1 > (wrap64 ((1099511627776 : Int) / a0))
    · rw [if_pos c4] at H
      have c4b0 : decide ((wrap64 ((1099511627776 : Int) / a0)) < a1) = true := decide_eq_true c4
      have c4b0t := c4b0
      rw [← Int.tdiv_eq_ediv_of_nonneg (by decide)] at c4b0t
      clear c4
      obtain rfl := Option.some.inj H
      go_enter Try.func46, Try.ntmps46
      go_wp2
      go_ret
      exact ⟨by first | rfl | (simp; done) | (simp [*]; done), by repeat (first | exact Drawn0.refl _ | apply Drawn0.step)⟩
    · rw [if_neg c4] at H
      have c4b0 : decide ((wrap64 ((1099511627776 : Int) / a0)) < a1) = false := decide_eq_false c4
      have c4b0t := c4b0
      rw [← Int.tdiv_eq_ediv_of_nonneg (by decide)] at c4b0t
      clear c4
      obtain rfl := Option.some.inj H
      go_enter Try.func46, Try.ntmps46
      go_wp2
      go_ret
      exact ⟨by first | rfl | (simp; done) | (simp [*]; done), by repeat (first | exact Drawn0.refl _ | apply Drawn0.step)⟩
end Go.Proofs.Ytgcdeablfoomhaa.PAll
end
section
set_option linter.unusedVariables false
set_option linter.unusedSimpArgs false
namespace Go.Proofs.Ytgcdeablfoomhaa.PAll
open Go.RowKit Go.Proofs.YtgcdeablfoomhaaW.PrintWords Go.Proofs.YtgcdeablfoomhaaW.PrintLast Go.Proofs.YtgcdeablfoomhaaW.PrintMore
theorem eqs_l0 (a b : List Int) (hl : a.length = b.length) (hm : a.length ≤ 9223372036854775807) : ∀ (m j : Nat), j + m = a.length → ∃ k, slices_Equal_int_int.l0 k a b (a.length : Int) (j : Int) = some (decide (a.drop j = b.drop j))
  | 0, j, hj => ⟨1, by
    unfold slices_Equal_int_int.l0
    rw [if_neg (by omega), List.drop_eq_nil_of_le (by omega), List.drop_eq_nil_of_le (by omega)]
    rfl⟩
  | m + 1, j, hj => by
    have h1 : j < a.length := by omega
    have h2 : j < b.length := by omega
    obtain ⟨k, hk⟩ := eqs_l0 a b hl hm m (j + 1) (by omega)
    refine ⟨k + 1, ?_⟩
    unfold slices_Equal_int_int.l0
    rw [if_pos (by omega), if_pos (by omega), if_pos (by omega), if_pos (by omega), rd_at h1, rd_at h2, List.drop_eq_getElem_cons h1, List.drop_eq_getElem_cons h2]
    by_cases e : a[j] = b[j]
    · rw [if_pos e, wrap64_of' (by omega) (by omega), cast_succ, hk, e]
      congr 1
      exact decide_eq_decide.2 (by simp only [List.cons.injEq, true_and])
    · rw [if_neg e]
      congr 1
      exact (decide_eq_false (fun h => e (List.cons.inj h).1)).symm
theorem eqs_f (a b : List Int) (hm : a.length ≤ 9223372036854775807) : ∃ k, slices_Equal_int_int.f k a b = some (decide (a = b)) := by
  unfold slices_Equal_int_int.f
  by_cases e : a.length = b.length
  · obtain ⟨k, hk⟩ := eqs_l0 a b e hm a.length 0 (by omega)
    refine ⟨k, ?_⟩
    rw [if_pos (by omega)]
    simpa using hk
  · refine ⟨0, ?_⟩
    rw [if_neg (by omega), decide_eq_false (fun h => e (by rw [h]))]
theorem eqs_calls {A0 : Option Addr} {c0 : Nat} {l0 : List Int} {A1 : Option Addr} {c1 : Nat} {l1 : List Int} {w : World} (h0 : Kd.C (Kd.int .i64) w A0 l0.length l0) (hc0 : l0.length ≤ c0) (h1 : Kd.C (Kd.int .i64) w A1 l1.length l1) (hc1 : l1.length ≤ c1) :
    Calls Try.prog 38 #[.slice A0 l0.length c0, .slice A1 l1.length c1] w fun e w' => e = .returned (.bool (decide (l0 = l1))) ∧ Below w.heap.size w w' := by
  obtain ⟨k, hk⟩ := eqs_f l0 l1 h0.2.1
  exact (slices_Equal_int_int.calls k A0 c0 l0 A1 c1 l1 _ w h0 hc0 h1 hc1 hk).mono fun e w' ⟨he, hb⟩ => ⟨he, drawn_below hb⟩
theorem drop_ne {L M : List (List Int)} {i : Nat} (h1 : i < L.length) (h2 : i < M.length) (h : L[i] ≠ M[i]) : decide (L = M) = false := decide_eq_false (fun e => h (by subst e; rfl))
set_option maxRecDepth 100000 in
set_option maxHeartbeats 2000000 in
theorem equalFunc_calls (A0 : Option Addr) (c0 : Nat) (L : List (List Int)) (A1 : Option Addr) (c1 : Nat) (M : List (List Int)) (w : World) (h0 : Kd.C (Kd.slice 3 (Kd.int .i64)) w A0 L.length L) (hc0 : L.length ≤ c0) (h1 : Kd.C (Kd.slice 3 (Kd.int .i64)) w A1 M.length M) (hc1 : M.length ≤ c1) (hll : L.length ≤ 9000000000000) :
    Calls Try.prog 37 #[.slice A0 L.length c0, .slice A1 M.length c1, .func (.func 38) #[] #[]] w fun e w' => e = .returned (.bool (decide (L = M))) ∧ Below w.heap.size w w' := by
  have H0 := Lib.hid h0
  have H1 := Lib.hid h1
  clear h0 h1
  by_cases hl : L.length = M.length
  · have hne : ((L.length : Int) != (M.length : Int)) = false := by simp [hl]
    have HNE := Lib.hid hl
    obtain ⟨n, hn⟩ : ∃ n, n = M.length := ⟨_, rfl⟩
    rw [← hn] at hl hne hc1 H1 ⊢
    have HN := Lib.hid hn
    rw [hl] at hne hc0 hll H0 ⊢
    have HL := Lib.hid hl
    clear hl hn hne
    have hne : ((n : Int) != (n : Int)) = false := by simp
    go_enter Try.func37, Try.ntmps37
    go_wp2
    go_loopw [17] (fun i wr => ∃ k : Nat, k ≤ n ∧ i = .int .i64 k ∧ Aside0 (L.take k = M.take k) ∧ Aside0 (Below w.heap.size w wr)) (fun i _ => n - (intOf i).toNat)
    case atStart => exact ⟨0, Nat.zero_le _, rfl, ⟨rfl⟩, ⟨Below.refl _ _⟩⟩
    case round =>
      obtain ⟨k, hk, rfl, HT, HB⟩ := hrel
      by_cases hlt : k < n
      · have d1 : decide (k < n) = true := decide_eq_true hlt
        have k1 : k < L.length := by rw [HL.out]; exact hlt
        have k2 : k < M.length := by rw [← HN.out]; exact hlt
        obtain ⟨ad0, B0, b0, hA0, hx0, hb0, hr0⟩ := at_L4 (Kd.C_below H0.out HB.out) (k : Int) (by omega) (by omega)
        obtain ⟨ad1, B1, b1, hA1, hx1, hb1, hr1⟩ := at_L4 (Kd.C_below H1.out HB.out) (k : Int) (by omega) (by omega)
        subst hA0 hA1
        obtain ⟨r0, hr0e⟩ : ∃ r, r = rd_L4 L (k : Int) := ⟨_, rfl⟩
        obtain ⟨r1, hr1e⟩ : ∃ r, r = rd_L4 M (k : Int) := ⟨_, rfl⟩
        rw [← hr0e] at hx0 hb0 hr0
        rw [← hr1e] at hx1 hb1 hr1
        have q0 : r0 = L[k] := by rw [hr0e, rdL_at k1]
        have q1 : r1 = M[k] := by rw [hr1e, rdL_at k2]
        simp only [Int.toNat_natCast] at hx0 hx1
        have HC0 := Lib.hid hr0
        have HC1 := Lib.hid hr1
        have p1 : (0 ≤ (k : Int)) = True := eq_true (by omega)
        have p2 : ((k : Int) < (n : Int)) = True := eq_true (by omega)
        have Q0 := Lib.hid q0
        have Q1 := Lib.hid q1
        have K1 := Lib.hid k1
        have K2 := Lib.hid k2
        clear hr0e hr1e hr0 hr1 q0 q1
        go_wp2_with (fail)
        refine (eqs_calls HC0.out hb0 HC1.out hb1).mono ?_
        rintro e w1 ⟨rfl, hb⟩
        have HB1 := Lib.hid (HB.out.trans (hb.mono HB.out.size))
        clear hb HB hx0 hx1 HC0 HC1
        by_cases he : r0 = r1
        · have d2 : decide (r0 = r1) = true := decide_eq_true he
          rw [d2]
          have ht : L.take (k + 1) = M.take (k + 1) := by rw [List.take_succ_eq_append_getElem K1.out, List.take_succ_eq_append_getElem K2.out, HT.out, ← Q0.out, ← Q1.out, he]
          have HT1 := Lib.hid ht
          clear d2 he ht HT
          go_wp2
          go_roundw
          case rel => exact ⟨k + 1, by omega, by go_num, ⟨HT1.out⟩, ⟨HB1.out⟩⟩
          case measure => simp [intOf]; omega
        · have d2 : decide (r0 = r1) = false := decide_eq_false he
          rw [d2]
          have hf : decide (L = M) = false := drop_ne K1.out K2.out (by rw [← Q0.out, ← Q1.out]; exact he)
          have HF := Lib.hid hf
          clear d2 he hf
          go_wp2
          go_ret
          exact ⟨by rw [HF.out]; rfl, HB1.out⟩
      · have d1 : decide (k < n) = false := decide_eq_false hlt
        have hf : decide (L = M) = true := decide_eq_true (by
          have h9 := HT.out
          rwa [List.take_of_length_le (by have := HL.out; omega), List.take_of_length_le (by have := HN.out; omega)] at h9)
        have HF := Lib.hid hf
        clear hf
        go_wp2
        go_ret
        exact ⟨by rw [HF.out]; rfl, HB.out⟩
  · have hne : ((L.length : Int) != (M.length : Int)) = true := by simp; omega
    have hf : decide (L = M) = false := decide_eq_false (fun h => hl (by rw [h]))
    have HF := Lib.hid hf
    clear hf hl
    go_enter Try.func37, Try.ntmps37
    go_wp2
    go_ret
    exact ⟨by rw [HF.out]; rfl, Below.refl _ _⟩
def eqS (l0 : List (List Int)) (l1 l2 : List Int) (m0 : List (List Int)) (m1 m2 : List Int) : Bool := decide (l0 = m0) && decide (l1 = m1) && decide (l2 = m2)
set_option maxRecDepth 100000 in
set_option maxHeartbeats 2000000 in
theorem equal_calls {w : World} {A0 A1 A2 : Option Addr} {c0 c1 c2 : Nat} {l0 : List (List Int)} {l1 l2 : List Int} {A0' A1' A2' : Option Addr} {c0' c1' c2' : Nat} {m0 : List (List Int)} {m1 m2 : List Int}
    (h : SR w A0 c0 l0 A1 c1 l1 A2 c2 l2) (h' : SR w A0' c0' m0 A1' c1' m1 A2' c2' m2) (hl : l0.length ≤ 5864062014634) :
    Calls Try.prog 23 #[.agg #[.slice A0 l0.length c0, .slice A1 l1.length c1, .slice A2 l2.length c2], .agg #[.slice A0' m0.length c0', .slice A1' m1.length c1', .slice A2' m2.length c2']] w fun e w' => e = .returned (.bool (eqS l0 l1 l2 m0 m1 m2)) ∧ Below w.heap.size w w' := by
  have H := Lib.hid h
  have H' := Lib.hid h'
  clear h h'
  obtain ⟨B1, hB1⟩ : ∃ b, b = w.heap.size := ⟨_, rfl⟩
  obtain ⟨B2, hB2⟩ : ∃ b, b = w.heap.size + 1 := ⟨_, rfl⟩
  go_enter Try.func23, Try.ntmps23
  go_wp2_with (fail)
  obtain ⟨w1, hw1⟩ : ∃ w1, w1 = (w.alloc (.cells #[.slice A0 l0.length c0, .slice A1 l1.length c1, .slice A2 l2.length c2] 35)).alloc (.cells #[.slice A0' m0.length c0', .slice A1' m1.length c1', .slice A2' m2.length c2'] 35) := ⟨_, rfl⟩
  have hbx : BoxA w1 B1 (.slice A0 l0.length c0) (.slice A1 l1.length c1) (.slice A2 l2.length c2) := by rw [hw1, hB1]; exact (BoxA.new _ _ _ _).alloc _
  have hbx' : BoxA w1 B2 (.slice A0' m0.length c0') (.slice A1' m1.length c1') (.slice A2' m2.length c2') := by
    rw [hw1, hB2]
    have h9 := BoxA.new (w.alloc (.cells #[.slice A0 l0.length c0, .slice A1 l1.length c1, .slice A2 l2.length c2] 35)) (.slice A0' m0.length c0') (.slice A1' m1.length c1') (.slice A2' m2.length c2')
    rwa [World.size_alloc] at h9
  have hb1 : Below w.heap.size w w1 := by rw [hw1]; exact ((Below.refl _ w).alloc (Nat.le_refl _) _).alloc (by simp) _
  rw [← hw1, ← hB2, ← hB1]
  have HB1 := Lib.hid hb1
  have HX := Lib.hid hbx
  have HX' := Lib.hid hbx'
  clear hw1 hB1 hB2 hbx hbx' hb1
  refine (equalFunc_calls _ _ _ _ _ _ _ (H.out.below HB1.out).r0 H.out.h0 (H'.out.below HB1.out).r0 H'.out.h0 (by omega)).mono ?_
  rintro e w2 ⟨rfl, hb⟩
  have HB2 := Lib.hid (HB1.out.trans (hb.mono HB1.out.size))
  have hx := HX.out.below hb HX.out.lt
  have hx' := HX'.out.below hb HX'.out.lt
  have a1 := hx.c1
  have a1' := hx'.c1
  have HX2 := Lib.hid hx
  have HX2' := Lib.hid hx'
  clear hb hx hx' HX HX' HB1
  by_cases e0 : l0 = m0
  · have d0 : decide (l0 = m0) = true := decide_eq_true e0
    rw [d0]
    have E0 := Lib.hid d0
    clear d0 e0
    go_wp2_with (fail)
    refine (eqs_calls (H.out.below HB2.out).r1 H.out.h1 (H'.out.below HB2.out).r1 H'.out.h1).mono ?_
    rintro e w3 ⟨rfl, hb⟩
    have HB3 := Lib.hid (HB2.out.trans (hb.mono HB2.out.size))
    have a2 := (HX2.out.below hb HX2.out.lt).c2
    have a2' := (HX2'.out.below hb HX2'.out.lt).c2
    clear hb HB2 a1 a1'
    by_cases e1 : l1 = m1
    · have d1 : decide (l1 = m1) = true := decide_eq_true e1
      rw [d1]
      have E1 := Lib.hid d1
      clear d1 e1
      go_wp2_with (fail)
      refine (eqs_calls (H.out.below HB3.out).r2 H.out.h2 (H'.out.below HB3.out).r2 H'.out.h2).mono ?_
      rintro e w4 ⟨rfl, hb⟩
      have HB4 := Lib.hid (HB3.out.trans (hb.mono HB3.out.size))
      clear hb
      obtain ⟨bb, hbb⟩ : ∃ bb, bb = decide (l2 = m2) := ⟨_, rfl⟩
      rw [← hbb]
      have HBB := Lib.hid hbb
      clear hbb
      go_wp2
      go_ret
      exact ⟨by unfold eqS; rw [E0.out, E1.out, ← HBB.out]; rfl, HB4.out⟩
    · have d1 : decide (l1 = m1) = false := decide_eq_false e1
      rw [d1]
      have E1 := Lib.hid d1
      clear d1 e1
      go_wp2
      go_ret
      exact ⟨by unfold eqS; rw [E0.out, E1.out]; rfl, HB3.out⟩
  · have d0 : decide (l0 = m0) = false := decide_eq_false e0
    rw [d0]
    have E0 := Lib.hid d0
    clear d0 e0
    go_wp2
    go_ret
    exact ⟨by unfold eqS; rw [E0.out]; rfl, HB2.out⟩
end Go.Proofs.Ytgcdeablfoomhaa.PAll
end
section
namespace Go.Proofs.Ytgcdeablfoomhaa.PAll
open Go.RowKit Go.Proofs.YtgcdeablfoomhaaW.PrintWords Go.Proofs.YtgcdeablfoomhaaW.PrintLast Go.Proofs.YtgcdeablfoomhaaW.PrintMore
attribute [local go_sem] max2_int min2_int max_two min_two max_three min_three max_four min_four   -- for this text's walks alone
set_option linter.unusedVariables false
set_option linter.unusedSimpArgs false
def rd_L7 (xs : List (List Int)) (i : Int) : (List Int) := xs.getD i.toNat ([] : List Int)
theorem at_L7 {w : World} {A : Option Addr} {n : Nat} {xs : List (List Int)} (h : Kd.C (Kd.slice 3 (Kd.int .i64)) w A n xs) (i : Int) (h0 : 0 ≤ i) (h1 : i < n) : ∃ ad A0 c0, A = some ad ∧ w.cell? (ad.add i.toNat) = some (.slice A0 (rd_L7 xs i).length c0) ∧ (rd_L7 xs i).length ≤ c0 ∧ (Kd.int .i64).C w A0 (rd_L7 xs i).length (rd_L7 xs i) := by
  obtain ⟨ad, c, e, _, hK, hc0⟩ := Kd.C_get h ([] : List Int) i h0 h1
  have hc : ∀ j u, c[j]? = some u → w.cell? (ad.add (i.toNat * 1 + j)) = some u := hc0
  obtain ⟨A0, c0, rfl, l0, g0⟩ := hK
  exact ⟨ad, A0, c0, e, by have hq := hc 0 _ rfl; rwa [Nat.mul_one, Nat.add_zero] at hq, l0, g0⟩
end Go.Proofs.Ytgcdeablfoomhaa.PAll
end
section
set_option linter.unusedVariables false
set_option linter.unusedSimpArgs false
namespace Go.Proofs.Ytgcdeablfoomhaa.PAll
open Go.RowKit Go.Proofs.YtgcdeablfoomhaaW.PrintWords Go.Proofs.YtgcdeablfoomhaaW.PrintLast Go.Proofs.YtgcdeablfoomhaaW.PrintMore
theorem run_eql_slice_nil' (a : Option Addr) (l c : Nat) (w : World) : (binOp .eql 33 (.slice a l c) (.slice none 0 0)).run Try.prog w = .ok (.bool a.isNone) w := by
  simp only [binOp]
  simp [run_equal_slice_nil w 33 3 a l c Try.underlying33]
attribute [local go_sem] run_eql_slice_nil'
def slices_Clone_int_int.f (l : List Int) : Option (List Int) := if l.length < 1099511627776 then some l else none
set_option maxRecDepth 100000 in
set_option maxHeartbeats 2000000 in
theorem slices_Clone_int_int.calls (A0 : Option Addr) (c0 : Nat) (l0 : List Int) (r : List Int) (w : World) (hr0 : Kd.C (Kd.int .i64) w A0 l0.length l0) (hc0 : l0.length ≤ c0) (h : slices_Clone_int_int.f l0 = some r) :
    Calls Try.prog 36 #[.slice A0 l0.length c0] w fun e w' => ∃ v0_ : Value, e = .returned (v0_) ∧ Kd.R (Kd.int .i64) 3 w' w.heap.size (fun _ => True) v0_ r ∧ Below w.heap.size w w' := by
  unfold slices_Clone_int_int.f at h
  have hg : l0.length < 1099511627776 := by
    by_cases hg : l0.length < 1099511627776
    · exact hg
    · rw [if_neg hg] at h; exact absurd h (by simp)
  rw [if_pos hg] at h
  obtain rfl := Option.some.inj h
  have HR := Lib.hid hr0
  clear hr0 h
  cases A0 with
  | none =>
    obtain rfl : l0 = [] := by
      have := HR.out
      cases l0 with
      | nil => rfl
      | cons x l =>
        obtain ⟨ad, e, _⟩ := Kd.at_int HR.out 0 (by omega) (by simp)
        cases e
    go_enter Try.func36, Try.ntmps36
    go_wp2
    go_ret
    exact ⟨_, rfl, Kd.R_nil _ _ _ _ _, Below.refl _ _⟩
  | some ad =>
    go_enter Try.func36, Try.ntmps36
    go_wp2_with ((with_reducible refine gate_builtin (b := .append) (xs := #[.tmp 5, .tmp 6]) rfl ?_); at_builtin; refine Kd.R_append_rows (Kd.int .i64) (w0 := w) w.heap.size rfl (.tmp 5) (.tmp 6) 33 3 (.int .i64 0) 8 rfl Try.underlying33 info3 rfl (by decide) (by omega) (.slice (some ⟨w.heap.size, 0, none⟩) 0 0) ([] : List Int) l0 (some ad) l0.length c0 (fun _ => True) (fun _ => False) rfl rfl (Kd.R_of_own (own_lit w w.heap.size 3 .i64 [] (Nat.le_refl _) (by simp)) (fun _ _ => trivial)) (Kd.C_alloc HR.out _) (fun _ _ h => h) (fun _ h => h.elim) (fun _ _ => trivial) (below_alloc (Below.refl _ _) _) (by simp) (by simp; omega) ?_; intro v2 w2 ho hb2 hg hat)
    go_ret
    exact ⟨v2, rfl, by simpa using ho, hb2⟩
end Go.Proofs.Ytgcdeablfoomhaa.PAll
end
section
namespace Go.Proofs.Ytgcdeablfoomhaa.PAll
open Go.RowKit Go.Proofs.YtgcdeablfoomhaaW.PrintWords Go.Proofs.YtgcdeablfoomhaaW.PrintLast Go.Proofs.YtgcdeablfoomhaaW.PrintMore
attribute [local go_sem] max2_int min2_int max_two min_two max_three min_three max_four min_four   -- for this text's walks alone
set_option linter.unusedVariables false
set_option linter.unusedSimpArgs false
def state_Clone.l0 : Nat → List (List Int) → Int → Int → List (List Int) → List Int → List Int → Option ((List (List Int)) × List Int × List Int)
  | 0, _, _, _, _, _, _ => none
  | k + 1, x14, x15, x16, x110000, x110001, x110002 => if x16 < x15 then (if 0 ≤ x16 then (if x16 < (x14.length : Int) then ((slices_Clone_int_int.f (rd_L7 x14 x16)).bind fun t111 => (if x110000.length < 5864062014805 then (state_Clone.l0 k x14 x15 (wrap64 (x16 + 1)) (x110000 ++ [t111]) x110001 x110002) else (none))) else (none)) else (none)) else (some (x110000, x110001, x110002))
def state_Clone.f (k : Nat) (l0_0 : List (List Int)) (l0_1 : List Int) (l0_2 : List Int) : Option ((List (List Int)) × List Int × List Int) := (slices_Clone_int_int.f l0_1).bind fun t103 => ((slices_Clone_int_int.f l0_2).bind fun t106 => (state_Clone.l0 k l0_0 (l0_0.length : Int) 0 ([] : List (List Int)) t103 t106))
def state_Clone.T1 : Bool × List (List Nat × List Nat) := (true, [([], []), ([0], [0]), ([1], [1]), ([], []), ([3], [3]), ([4, 2], [4]), ([2, 5], [2, 5]), ([], []), ([7, 6, 5, 0, 1, 2, 3, 4, 5, 6, 7], [6, 7])])
def state_Clone.B1 : List Nat := [0, 1, 3, 0, 8, 31, 63, 0, 255]
theorem state_Clone.tab1 : rtab .any (opsOf Try.f22 1) = state_Clone.T1 := by kernel_rfl
theorem state_Clone.bits1 : waitsOk state_Clone.T1.2 state_Clone.B1 = true := by kernel_rfl
def state_Clone.T5 : Bool × List (List Nat × List Nat) := (true, [([], []), ([0], [0]), ([], []), ([2], [2]), ([3], [3]), ([1, 4, 3], [1, 4]), ([0, 1, 2, 3, 4, 5], []), ([6, 5, 5, 0, 1, 2, 3, 4, 5], [5, 6])])
def state_Clone.B5 : List Nat := [0, 1, 0, 4, 12, 31, 63, 127]
theorem state_Clone.tab5 : rtab .any (opsOf Try.f22 5) = state_Clone.T5 := by kernel_rfl
theorem state_Clone.bits5 : waitsOk state_Clone.T5.2 state_Clone.B5 = true := by kernel_rfl
set_option maxHeartbeats 8000000 in
set_option maxRecDepth 100000 in
theorem state_Clone.calls (k : Nat) (A0_0 : Option Addr) (c0_0 : Nat) (l0_0 : List (List Int)) (A0_1 : Option Addr) (c0_1 : Nat) (l0_1 : List Int) (A0_2 : Option Addr) (c0_2 : Nat) (l0_2 : List Int) (r1 : List (List Int)) (r2 : List Int) (r3 : List Int) (w : World) (hr0_0 : Kd.C (Kd.slice 3 (Kd.int .i64)) w A0_0 l0_0.length l0_0) (hc0_0 : l0_0.length ≤ c0_0) (hr0_1 : Kd.C (Kd.int .i64) w A0_1 l0_1.length l0_1) (hc0_1 : l0_1.length ≤ c0_1) (hr0_2 : Kd.C (Kd.int .i64) w A0_2 l0_2.length l0_2) (hc0_2 : l0_2.length ≤ c0_2) (h : state_Clone.f k l0_0 l0_1 l0_2 = some (r1, r2, r3)) :
    Calls Try.prog 22 #[.agg #[.slice A0_0 l0_0.length c0_0, .slice A0_1 l0_1.length c0_1, .slice A0_2 l0_2.length c0_2]] w fun e w' => ∃ v0_ v1_ v2_ : Value, e = .returned (.agg #[v0_, v1_, v2_]) ∧ Kd.S (Kd.slice 3 (Kd.int .i64)) 33 w' w.heap.size (fun k_ => some k_ ≠ (v1_ : Value).ownBlock ∧ some k_ ≠ (v2_ : Value).ownBlock) v0_ r1 ∧ Kd.R (Kd.int .i64) 3 w' w.heap.size (fun k_ => some k_ ≠ (v2_ : Value).ownBlock) v1_ r2 ∧ Kd.R (Kd.int .i64) 3 w' w.heap.size (fun k_ => some k_ ≠ (v1_ : Value).ownBlock) v2_ r3 ∧ Below w.heap.size w w' := by
  have hu35 := Try.underlying35
  have HR0_0 := Aside0.mk hr0_0
  have HC0_0 := Aside0.mk hc0_0
  clear hr0_0 hc0_0
  have HR0_1 := Aside0.mk hr0_1
  have HC0_1 := Aside0.mk hc0_1
  clear hr0_1 hc0_1
  have HR0_2 := Aside0.mk hr0_2
  have HC0_2 := Aside0.mk hc0_2
  clear hr0_2 hc0_2
  have HB := Aside0.mk (Below.refl w.heap.size w)
  have H : ((slices_Clone_int_int.f l0_1).bind fun t103 => ((slices_Clone_int_int.f l0_2).bind fun t106 => (state_Clone.l0 k l0_0 (l0_0.length : Int) 0 ([] : List (List Int)) t103 t106))) = some (r1, r2, r3) := h
  clear h
  replace H := Option.bind_eq_some_iff.mp H
  obtain ⟨t103, A20, H⟩ := H
  replace H : ((slices_Clone_int_int.f l0_2).bind fun t106 => (state_Clone.l0 k l0_0 (l0_0.length : Int) 0 ([] : List (List Int)) t103 t106)) = some (r1, r2, r3) := H
  have A2 := Aside0.mk A20
  clear A20
  replace H := Option.bind_eq_some_iff.mp H
  obtain ⟨t106, A30, H⟩ := H
  replace H : (state_Clone.l0 k l0_0 (l0_0.length : Int) 0 ([] : List (List Int)) t103 t106) = some (r1, r2, r3) := H
  have A3 := Aside0.mk A30
  clear A30
  have H' := Aside0.mk H
  clear H
  go_enter Try.func22, Try.ntmps22
  try go_wp2_with (first | ((with_reducible refine gate_dst (N := 1) rfl ?_); refine box_event ?hg (N := 1) ?hd (cs := #[.slice A0_0 l0_0.length c0_0, .slice A0_1 l0_1.length c0_1, .slice A0_2 l0_2.length c0_2]) (t := 35) ?hr ?_; (case hd => rfl); (case hg => rfl); (case hr => first | (go_simp; done) | (go_simp; rfl)); intro gb101 hg w4 hbox hb; have n0_ := Aside0.mk (below_step (by repeat (first | (with_reducible first | exact HB.out | apply below_alloc | apply pw_below_drewN | apply below_drew1) | exact HB.out)) hb); have n1_ := Aside0.mk (hbox); have n2_ := Aside0.mk ((by rw [hg]; exact (below_size (by repeat (first | (with_reducible first | exact HB.out | apply below_alloc | apply pw_below_drewN | apply below_drew1) | exact HB.out))) : w.heap.size ≤ gb101)); have n3_ := Aside0.mk ((by rw [hg]; exact (below_size (by repeat (first | (with_reducible first | exact HB.out | apply below_alloc | apply pw_below_drewN | apply below_drew1) | exact HB.out))) : w.heap.size ≤ gb101)); clear HB; have HB := n0_; have BK101 := n1_; have GW101 := n2_; have GE101 := n3_; clear n0_ n1_ n2_ n3_; clear hb hbox hg) | ((with_reducible refine gate_dst (N := 2) rfl ?_); refine box_event ?hg (N := 2) ?hd (cs := #[.slice none 0 0, .slice none 0 0, .slice none 0 0]) (t := 35) ?hr ?_; (case hd => rfl); (case hg => rfl); (case hr => first | (go_simp; done) | (go_simp; rfl)); intro gb102 hg w5 hbox hb; have n0_ := Aside0.mk (blk_below (g := gb101) (o := .cells #[.slice A0_0 l0_0.length c0_0, .slice A0_1 l0_1.length c0_1, .slice A0_2 l0_2.length c0_2] 35 (0, 0)) (by (with_reducible repeat (first | refine blk_drewN ?_ _ | refine blk_drew ?_ | refine blk_alloc ?_ _)); exact BK101.out) hb); have n1_ := Aside0.mk (below_step (by repeat (first | (with_reducible first | exact HB.out | apply below_alloc | apply pw_below_drewN | apply below_drew1 | refine below_set ?_ GE101.out) | exact HB.out)) hb); have n2_ := Aside0.mk (hbox); have n3_ := Aside0.mk ((by rw [hg]; exact (below_size (by repeat (first | (with_reducible first | exact HB.out | apply below_alloc | apply pw_below_drewN | apply below_drew1 | refine below_set ?_ GE101.out) | exact HB.out))) : w.heap.size ≤ gb102)); have n4_ := Aside0.mk ((by rw [hg]; exact (below_size (by repeat (first | (with_reducible first | exact HB.out | apply below_alloc | apply pw_below_drewN | apply below_drew1 | refine below_set ?_ GE101.out) | exact HB.out))) : w.heap.size ≤ gb102)); have n5_ := Aside0.mk ((by rw [hg]; exact Nat.ne_of_lt (blk_lt (g := gb101) (o := .cells #[.slice A0_0 l0_0.length c0_0, .slice A0_1 l0_1.length c0_1, .slice A0_2 l0_2.length c0_2] 35 (0, 0)) (by (with_reducible repeat (first | refine blk_drewN ?_ _ | refine blk_drew ?_ | refine blk_alloc ?_ _)); exact BK101.out)) : gb101 ≠ gb102)); have n6_ := Aside0.mk ((by rw [hg]; exact Nat.ne_of_gt (blk_lt (g := gb101) (o := .cells #[.slice A0_0 l0_0.length c0_0, .slice A0_1 l0_1.length c0_1, .slice A0_2 l0_2.length c0_2] 35 (0, 0)) (by (with_reducible repeat (first | refine blk_drewN ?_ _ | refine blk_drew ?_ | refine blk_alloc ?_ _)); exact BK101.out)) : gb102 ≠ gb101)); clear BK101; clear HB; have BK101 := n0_; have HB := n1_; have BK102 := n2_; have GW102 := n3_; have GE102 := n4_; have NB101_102 := n5_; have NB102_101 := n6_; clear n0_ n1_ n2_ n3_ n4_ n5_ n6_; clear hb hbox hg))
  have n0_ := Aside0.mk (blk_drew BK101.out)
  have n1_ := Aside0.mk (blk_drew BK102.out)
  have n2_ := Aside0.mk (below_drew1 HB.out)
  clear BK101
  clear BK102
  clear HB
  have BK101 := n0_
  have BK102 := n1_
  have HB := n2_
  clear n0_ n1_ n2_
  refine start_ (n := 9) (S := fun w' => w'.cell? ⟨gb101, 0, none⟩ = some (.slice A0_0 l0_0.length c0_0) ∧ w'.cell? ⟨gb101, 1, none⟩ = some (.slice A0_1 l0_1.length c0_1) ∧ w'.cell? ⟨gb101, 2, none⟩ = some (.slice A0_2 l0_2.length c0_2)) (ds := []) #[false, false, false, false, false, false, false, false, false] (by kernel_rfl) rfl rfl ⟨(blk_cell BK101.out 0).trans rfl, (blk_cell BK101.out 1).trans rfl, (blk_cell BK101.out 2).trans rfl⟩ (fun hHeld => ?_); refine with_tabW state_Clone.tab1 state_Clone.bits1 (fun HT_ HW_ => ?_)
  generalize w5.drew = w6 at BK101 BK102 HB hHeld ⊢
  refine pure_ (i := 0) (N := some 6) (v := ?_) (a' := ?_) #[true, false, false, false, false, false, false, false, false] rfl rfl (any_of HT_.out (by kernel_rfl)) (fun _ _ _ h => h) (Or.inl ⟨by rfl, ?_⟩) ?_ ?_
  rotate_left
  · intro w'
    go_simp
    with_reducible rfl
  rotate_left
  · simp only [Act.put, List.setIfInBounds_toArray, List.set_cons_zero, List.set_cons_succ, i64_w, i32_w]
    rfl
  refine pure_ (i := 3) (N := some 9) (v := ?_) (a' := ?_) #[true, false, false, true, false, false, false, false, false] rfl rfl (any_of HT_.out (by kernel_rfl)) (fun _ _ _ h => h) (Or.inl ⟨by rfl, ?_⟩) ?_ ?_
  rotate_left
  · intro w'
    go_simp
    with_reducible rfl
  rotate_left
  · simp only [Act.put, List.setIfInBounds_toArray, List.set_cons_zero, List.set_cons_succ, i64_w, i32_w]
    rfl
  refine take_ (i := 1) (N := some 7) (v := ?_) (a' := ?_) #[true, true, false, true, false, false, false, false, false] rfl rfl (take_ofW HT_.out HW_.out (by kernel_rfl)) (fun _ _ _ h => h) (Or.inl ⟨by rfl, ?_⟩) hHeld ?_ ?_
  rotate_left
  · rintro w' ⟨s0, s1, s2⟩
    go_simp
    with_reducible rfl
  rotate_left
  · simp only [Act.put, List.setIfInBounds_toArray, List.set_cons_zero, List.set_cons_succ, i64_w, i32_w]
    rfl
  refine take_ (i := 4) (N := some 10) (v := ?_) (a' := ?_) #[true, true, false, true, true, false, false, false, false] rfl rfl (take_ofW HT_.out HW_.out (by kernel_rfl)) (fun _ _ _ h => h) (Or.inl ⟨by rfl, ?_⟩) hHeld ?_ ?_
  rotate_left
  · rintro w' ⟨s0, s1, s2⟩
    go_simp
    with_reducible rfl
  rotate_left
  · simp only [Act.put, List.setIfInBounds_toArray, List.set_cons_zero, List.set_cons_succ, i64_w, i32_w]
    rfl
  refine join_ (σ := Value × Value × Nat) 1 #[true, true, true, true, true, true, true, true, false] (fun s_ => [(8, s_.1), (11, s_.2.1), (3, .pointer (some ⟨s_.2.2, 0, none⟩)), (12, .agg #[.slice none 0 0, s_.1, s_.2.1])]) (fun s_ w' => (w'.cell? ⟨gb101, 0, none⟩ = some (.slice A0_0 l0_0.length c0_0) ∧ w'.cell? ⟨gb101, 1, none⟩ = some (.slice A0_1 l0_1.length c0_1) ∧ w'.cell? ⟨gb101, 2, none⟩ = some (.slice A0_2 l0_2.length c0_2)) ∧ (Kd.R (Kd.int .i64) 3 w' w.heap.size (fun k_ => some k_ ≠ (s_.2.1 : Value).ownBlock) s_.1 t103) ∧ (Kd.R (Kd.int .i64) 3 w' w.heap.size (fun k_ => some k_ ≠ (s_.1 : Value).ownBlock) s_.2.1 t106) ∧ (w'.heap[gb101]? = some (.cells #[.slice A0_0 l0_0.length c0_0, .slice A0_1 l0_1.length c0_1, .slice A0_2 l0_2.length c0_2] 35 (0, 0))) ∧ (w'.heap[gb102]? = some (.cells #[.slice none 0 0, .slice none 0 0, .slice none 0 0] 35 (0, 0))) ∧ (w'.heap[s_.2.2]? = some (.cells #[.slice none 0 0, .slice none 0 0, .slice none 0 0] 35 (0, 0))) ∧ (w.heap.size ≤ s_.2.2) ∧ (w.heap.size ≤ s_.2.2) ∧ (gb101 ≠ s_.2.2) ∧ (s_.2.2 ≠ gb101) ∧ (gb102 ≠ s_.2.2) ∧ (s_.2.2 ≠ gb102) ∧ (Below w.heap.size w w')) ?_ ?_
  rotate_left
  · intro hCont
    refine two_ (i := 2) (j := 7) (Ni := some 8) (Nj := some 3) #[true, true, true, true, true, false, false, false, false] #[true, true, false, true, true, false, false, true, false] rfl rfl rfl rfl (two_of HT_.out (by kernel_rfl)) (by decide) (by decide) (fun K hK => ?_) (fun K hK => ?_)
    · skip
      refine goes_ Try.func36 (by kernel_rfl) rfl #[.slice A0_1 l0_1.length c0_1] (by rfl) rfl rfl (by (try simp only [List.map_toArray, List.map_cons, List.map_nil]); first | done | rfl | (simp only [List.length_drop, List.length_take]; rfl)) ?_
      with_reducible refine (slices_Clone_int_int.calls _ _ l0_1 t103 _ ?side1 ?side2 A2.out).mono ?_
      (case side1 => repeat (first | exact (Kd.C_below HR0_1.out HB.out) | (with_reducible refine Kd.C_alloc ?_ _) | (with_reducible refine Kd.C_drewN ?_ _) | (with_reducible refine Kd.C_drew ?_)))
      (case side2 => exact HC0_1.out)
      rintro e w7 ⟨v104, rfl, ho0, hb⟩
      refine ⟨_, rfl, ?_⟩
      have n0_ := Aside0.mk (Kd.R_lower ho0 (below_size (by repeat (first | (with_reducible first | exact HB.out | apply below_alloc | apply pw_below_drewN | apply below_drew1 | refine below_set ?_ GE101.out | refine below_set ?_ GE102.out) | exact HB.out))))
      have n1_ := Aside0.mk (blk_below (g := gb101) (o := .cells #[.slice A0_0 l0_0.length c0_0, .slice A0_1 l0_1.length c0_1, .slice A0_2 l0_2.length c0_2] 35 (0, 0)) (by (with_reducible repeat (first | refine blk_drewN ?_ _ | refine blk_drew ?_ | refine blk_alloc ?_ _)); exact BK101.out) hb)
      have n2_ := Aside0.mk (blk_below (g := gb102) (o := .cells #[.slice none 0 0, .slice none 0 0, .slice none 0 0] 35 (0, 0)) (by (with_reducible repeat (first | refine blk_drewN ?_ _ | refine blk_drew ?_ | refine blk_alloc ?_ _)); exact BK102.out) hb)
      have n3_ := Aside0.mk (below_step (by repeat (first | (with_reducible first | exact HB.out | apply below_alloc | apply pw_below_drewN | apply below_drew1 | refine below_set ?_ GE101.out | refine below_set ?_ GE102.out) | exact HB.out)) hb)
      clear BK101
      clear BK102
      clear HB
      have HO105 := n0_
      have BK101 := n1_
      have BK102 := n2_
      have HB := n3_
      clear n0_ n1_ n2_ n3_
      (try clear hb)
      (try clear hb2)
      (try clear hk)
      (try clear hi)
      (try clear ho0)
      refine hK.out _ _ ⟨(blk_cell BK101.out 0).trans rfl, (blk_cell BK101.out 1).trans rfl, (blk_cell BK101.out 2).trans rfl⟩ (fun hHeld => ?_)
      clear hK K
      refine norm_ (a' := ?_) ?_ ?_
      rotate_left
      · show Act.put _ (some 8) _ = _
        simp only [Act.put, List.setIfInBounds_toArray, List.set_cons_zero, List.set_cons_succ, i64_w, i32_w]
        rfl
      refine two_ (i := 5) (j := 7) (Ni := some 11) (Nj := some 3) #[true, true, true, true, true, true, false, false, false] #[true, true, true, true, true, false, false, true, false] rfl rfl rfl rfl (two_of HT_.out (by kernel_rfl)) (by decide) (by decide) (fun K hK => ?_) (fun K hK => ?_)
      · skip
        refine goes_ Try.func36 (by kernel_rfl) rfl #[.slice A0_2 l0_2.length c0_2] (by rfl) rfl rfl (by (try simp only [List.map_toArray, List.map_cons, List.map_nil]); first | done | rfl | (simp only [List.length_drop, List.length_take]; rfl)) ?_
        with_reducible refine (slices_Clone_int_int.calls _ _ l0_2 t106 _ ?side1 ?side2 A3.out).mono ?_
        (case side1 => repeat (first | exact (Kd.C_below HR0_2.out HB.out) | (with_reducible refine Kd.C_alloc ?_ _) | (with_reducible refine Kd.C_drewN ?_ _) | (with_reducible refine Kd.C_drew ?_)))
        (case side2 => exact HC0_2.out)
        rintro e w8 ⟨v107, rfl, ho0, hb⟩
        refine ⟨_, rfl, ?_⟩
        have n0_ := Aside0.mk (Kd.R_elder' (by (with_reducible repeat (first | apply Kd.R_alloc | apply Kd.R_drewN | apply Kd.R_drew)); exact HO105.out) (Kd.R_base ho0) hb)
        have n1_ := Aside0.mk (Kd.R_lower (Kd.R_new' ho0 (Kd.R_lt (by (with_reducible repeat (first | apply Kd.R_alloc | apply Kd.R_drewN | apply Kd.R_drew)); exact HO105.out))) (below_size (by repeat (first | (with_reducible first | exact HB.out | apply below_alloc | apply pw_below_drewN | apply below_drew1 | refine below_set ?_ GE101.out | refine below_set ?_ GE102.out) | exact HB.out))))
        have n2_ := Aside0.mk (blk_below (g := gb101) (o := .cells #[.slice A0_0 l0_0.length c0_0, .slice A0_1 l0_1.length c0_1, .slice A0_2 l0_2.length c0_2] 35 (0, 0)) (by (with_reducible repeat (first | refine blk_drewN ?_ _ | refine blk_drew ?_ | refine blk_alloc ?_ _)); exact BK101.out) hb)
        have n3_ := Aside0.mk (blk_below (g := gb102) (o := .cells #[.slice none 0 0, .slice none 0 0, .slice none 0 0] 35 (0, 0)) (by (with_reducible repeat (first | refine blk_drewN ?_ _ | refine blk_drew ?_ | refine blk_alloc ?_ _)); exact BK102.out) hb)
        have n4_ := Aside0.mk (below_step (by repeat (first | (with_reducible first | exact HB.out | apply below_alloc | apply pw_below_drewN | apply below_drew1 | refine below_set ?_ GE101.out | refine below_set ?_ GE102.out) | exact HB.out)) hb)
        clear HO105
        clear BK101
        clear BK102
        clear HB
        have HO105 := n0_
        have HO108 := n1_
        have BK101 := n2_
        have BK102 := n3_
        have HB := n4_
        clear n0_ n1_ n2_ n3_ n4_
        (try clear hb)
        (try clear hb2)
        (try clear hk)
        (try clear hi)
        (try clear ho0)
        obtain ⟨Ao9, co9, eo9⟩ := Kd.R_slice HO108.out
        (first | subst eo9 | (injection eo9 with f1_ f2_ f3_; have f4_ := f1_.symm; have f5_ := f3_.symm; clear f1_ f2_ f3_; subst f4_; subst f5_))
        obtain ⟨Ao10, co10, eo10⟩ := Kd.R_slice HO105.out
        (first | subst eo10 | (injection eo10 with f1_ f2_ f3_; have f4_ := f1_.symm; have f5_ := f3_.symm; clear f1_ f2_ f3_; subst f4_; subst f5_))
        refine hK.out _ _ ⟨(blk_cell BK101.out 0).trans rfl, (blk_cell BK101.out 1).trans rfl, (blk_cell BK101.out 2).trans rfl⟩ (fun hHeld => ?_)
        clear hK K
        refine norm_ (a' := ?_) ?_ ?_
        rotate_left
        · show Act.put _ (some 11) _ = _
          simp only [Act.put, List.setIfInBounds_toArray, List.set_cons_zero, List.set_cons_succ, i64_w, i32_w]
          rfl
        refine pure_ (i := 6) (N := some 12) (v := ?_) (a' := ?_) #[true, true, true, true, true, true, true, false, false] rfl rfl (any_of HT_.out (by kernel_rfl)) (fun _ _ _ h => h) (Or.inl ⟨by rfl, ?_⟩) ?_ ?_
        rotate_left
        · intro w'
          go_simp
          with_reducible rfl
        rotate_left
        · simp only [Act.put, List.setIfInBounds_toArray, List.set_cons_zero, List.set_cons_succ, i64_w, i32_w]
          rfl
        refine one_ (i := 7) (N := some 3) #[true, true, true, true, true, true, true, true, false] rfl rfl (one_of HT_.out (by kernel_rfl)) (by decide) (fun K hK => ?_)
        refine box_step ?hg (N := 3) ?hd (cs := #[.slice none 0 0, .slice none 0 0, .slice none 0 0]) (t := 35) ?hr ?_; (case hd => rfl); (case hg => rfl); (case hr => first | (go_simp; done) | (go_simp; rfl))
        intro gb109 hg w11 hbox hb
        have n0_ := Aside0.mk (Kd.R_below (by (with_reducible repeat (first | apply Kd.R_alloc | apply Kd.R_drewN | apply Kd.R_drew)); exact HO105.out) hb)
        have n1_ := Aside0.mk (Kd.R_below (by (with_reducible repeat (first | apply Kd.R_alloc | apply Kd.R_drewN | apply Kd.R_drew)); exact HO108.out) hb)
        have n2_ := Aside0.mk (blk_below (g := gb101) (o := .cells #[.slice A0_0 l0_0.length c0_0, .slice A0_1 l0_1.length c0_1, .slice A0_2 l0_2.length c0_2] 35 (0, 0)) (by (with_reducible repeat (first | refine blk_drewN ?_ _ | refine blk_drew ?_ | refine blk_alloc ?_ _)); exact BK101.out) hb)
        have n3_ := Aside0.mk (blk_below (g := gb102) (o := .cells #[.slice none 0 0, .slice none 0 0, .slice none 0 0] 35 (0, 0)) (by (with_reducible repeat (first | refine blk_drewN ?_ _ | refine blk_drew ?_ | refine blk_alloc ?_ _)); exact BK102.out) hb)
        have n4_ := Aside0.mk (below_step (by repeat (first | (with_reducible first | exact HB.out | apply below_alloc | apply pw_below_drewN | apply below_drew1 | refine below_set ?_ GE101.out | refine below_set ?_ GE102.out) | exact HB.out)) hb)
        have n5_ := Aside0.mk (hbox)
        have n6_ := Aside0.mk ((by rw [hg]; exact (below_size (by repeat (first | (with_reducible first | exact HB.out | apply below_alloc | apply pw_below_drewN | apply below_drew1 | refine below_set ?_ GE101.out | refine below_set ?_ GE102.out) | exact HB.out))) : w.heap.size ≤ gb109))
        have n7_ := Aside0.mk ((by rw [hg]; exact (below_size (by repeat (first | (with_reducible first | exact HB.out | apply below_alloc | apply pw_below_drewN | apply below_drew1 | refine below_set ?_ GE101.out | refine below_set ?_ GE102.out) | exact HB.out))) : w.heap.size ≤ gb109))
        have n8_ := Aside0.mk ((by rw [hg]; exact Nat.ne_of_lt (blk_lt (g := gb101) (o := .cells #[.slice A0_0 l0_0.length c0_0, .slice A0_1 l0_1.length c0_1, .slice A0_2 l0_2.length c0_2] 35 (0, 0)) (by (with_reducible repeat (first | refine blk_drewN ?_ _ | refine blk_drew ?_ | refine blk_alloc ?_ _)); exact BK101.out)) : gb101 ≠ gb109))
        have n9_ := Aside0.mk ((by rw [hg]; exact Nat.ne_of_gt (blk_lt (g := gb101) (o := .cells #[.slice A0_0 l0_0.length c0_0, .slice A0_1 l0_1.length c0_1, .slice A0_2 l0_2.length c0_2] 35 (0, 0)) (by (with_reducible repeat (first | refine blk_drewN ?_ _ | refine blk_drew ?_ | refine blk_alloc ?_ _)); exact BK101.out)) : gb109 ≠ gb101))
        have n10_ := Aside0.mk ((by rw [hg]; exact Nat.ne_of_lt (blk_lt (g := gb102) (o := .cells #[.slice none 0 0, .slice none 0 0, .slice none 0 0] 35 (0, 0)) (by (with_reducible repeat (first | refine blk_drewN ?_ _ | refine blk_drew ?_ | refine blk_alloc ?_ _)); exact BK102.out)) : gb102 ≠ gb109))
        have n11_ := Aside0.mk ((by rw [hg]; exact Nat.ne_of_gt (blk_lt (g := gb102) (o := .cells #[.slice none 0 0, .slice none 0 0, .slice none 0 0] 35 (0, 0)) (by (with_reducible repeat (first | refine blk_drewN ?_ _ | refine blk_drew ?_ | refine blk_alloc ?_ _)); exact BK102.out)) : gb109 ≠ gb102))
        clear HO105
        clear HO108
        clear BK101
        clear BK102
        clear HB
        have HO105 := n0_
        have HO108 := n1_
        have BK101 := n2_
        have BK102 := n3_
        have HB := n4_
        have BK109 := n5_
        have GW109 := n6_
        have GE109 := n7_
        have NB101_109 := n8_
        have NB109_101 := n9_
        have NB102_109 := n10_
        have NB109_102 := n11_
        clear n0_ n1_ n2_ n3_ n4_ n5_ n6_ n7_ n8_ n9_ n10_ n11_
        clear hb hbox hg
        refine hK.out _ _ ⟨(blk_cell BK101.out 0).trans rfl, (blk_cell BK101.out 1).trans rfl, (blk_cell BK101.out 2).trans rfl⟩ (fun hHeld => ?_)
        clear hK K
        refine norm_ (a' := ?_) ?_ ?_
        rotate_left
        · show Act.put _ (some 3) _ = _
          simp only [Act.put, List.setIfInBounds_toArray, List.set_cons_zero, List.set_cons_succ, i64_w, i32_w]
          rfl
        exact norm_ (by simp only [putAll, Act.put, List.setIfInBounds_toArray, List.set_cons_zero, List.set_cons_succ]) (hCont (.slice Ao10 t103.length co10, .slice Ao9 t106.length co9, gb109) _ ⟨hHeld, (by (with_reducible repeat (first | apply Kd.R_alloc | apply Kd.R_drewN | apply Kd.R_drew)); exact Kd.R_mono HO105.out (fun _ hk => hk.2)), (by (with_reducible repeat (first | apply Kd.R_alloc | apply Kd.R_drewN | apply Kd.R_drew)); exact Kd.R_mono HO108.out (fun _ hk => hk.2)), (by (with_reducible repeat (first | refine blk_drewN ?_ _ | refine blk_drew ?_ | refine blk_alloc ?_ _)); exact BK101.out), (by (with_reducible repeat (first | refine blk_drewN ?_ _ | refine blk_drew ?_ | refine blk_alloc ?_ _)); exact BK102.out), (by (with_reducible repeat (first | refine blk_drewN ?_ _ | refine blk_drew ?_ | refine blk_alloc ?_ _)); exact BK109.out), GW109.out, GE109.out, NB101_109.out, NB109_101.out, NB102_109.out, NB109_102.out, (by repeat (first | (with_reducible first | exact HB.out | apply below_alloc | apply pw_below_drewN | apply below_drew1 | refine below_set ?_ GE101.out | refine below_set ?_ GE102.out | refine below_set ?_ GE109.out) | exact HB.out))⟩)
      · skip
        refine box_step ?hg (N := 3) ?hd (cs := #[.slice none 0 0, .slice none 0 0, .slice none 0 0]) (t := 35) ?hr ?_; (case hd => rfl); (case hg => rfl); (case hr => first | (go_simp; done) | (go_simp; rfl))
        intro gb109 hg w8 hbox hb
        have n0_ := Aside0.mk (Kd.R_below (by (with_reducible repeat (first | apply Kd.R_alloc | apply Kd.R_drewN | apply Kd.R_drew)); exact HO105.out) hb)
        have n1_ := Aside0.mk (blk_below (g := gb101) (o := .cells #[.slice A0_0 l0_0.length c0_0, .slice A0_1 l0_1.length c0_1, .slice A0_2 l0_2.length c0_2] 35 (0, 0)) (by (with_reducible repeat (first | refine blk_drewN ?_ _ | refine blk_drew ?_ | refine blk_alloc ?_ _)); exact BK101.out) hb)
        have n2_ := Aside0.mk (blk_below (g := gb102) (o := .cells #[.slice none 0 0, .slice none 0 0, .slice none 0 0] 35 (0, 0)) (by (with_reducible repeat (first | refine blk_drewN ?_ _ | refine blk_drew ?_ | refine blk_alloc ?_ _)); exact BK102.out) hb)
        have n3_ := Aside0.mk (below_step (by repeat (first | (with_reducible first | exact HB.out | apply below_alloc | apply pw_below_drewN | apply below_drew1 | refine below_set ?_ GE101.out | refine below_set ?_ GE102.out) | exact HB.out)) hb)
        have n4_ := Aside0.mk (hbox)
        have n5_ := Aside0.mk ((by rw [hg]; exact (below_size (by repeat (first | (with_reducible first | exact HB.out | apply below_alloc | apply pw_below_drewN | apply below_drew1 | refine below_set ?_ GE101.out | refine below_set ?_ GE102.out) | exact HB.out))) : w.heap.size ≤ gb109))
        have n6_ := Aside0.mk ((by rw [hg]; exact (below_size (by repeat (first | (with_reducible first | exact HB.out | apply below_alloc | apply pw_below_drewN | apply below_drew1 | refine below_set ?_ GE101.out | refine below_set ?_ GE102.out) | exact HB.out))) : w.heap.size ≤ gb109))
        have n7_ := Aside0.mk ((by rw [hg]; exact Nat.ne_of_lt (blk_lt (g := gb101) (o := .cells #[.slice A0_0 l0_0.length c0_0, .slice A0_1 l0_1.length c0_1, .slice A0_2 l0_2.length c0_2] 35 (0, 0)) (by (with_reducible repeat (first | refine blk_drewN ?_ _ | refine blk_drew ?_ | refine blk_alloc ?_ _)); exact BK101.out)) : gb101 ≠ gb109))
        have n8_ := Aside0.mk ((by rw [hg]; exact Nat.ne_of_gt (blk_lt (g := gb101) (o := .cells #[.slice A0_0 l0_0.length c0_0, .slice A0_1 l0_1.length c0_1, .slice A0_2 l0_2.length c0_2] 35 (0, 0)) (by (with_reducible repeat (first | refine blk_drewN ?_ _ | refine blk_drew ?_ | refine blk_alloc ?_ _)); exact BK101.out)) : gb109 ≠ gb101))
        have n9_ := Aside0.mk ((by rw [hg]; exact Nat.ne_of_lt (blk_lt (g := gb102) (o := .cells #[.slice none 0 0, .slice none 0 0, .slice none 0 0] 35 (0, 0)) (by (with_reducible repeat (first | refine blk_drewN ?_ _ | refine blk_drew ?_ | refine blk_alloc ?_ _)); exact BK102.out)) : gb102 ≠ gb109))
        have n10_ := Aside0.mk ((by rw [hg]; exact Nat.ne_of_gt (blk_lt (g := gb102) (o := .cells #[.slice none 0 0, .slice none 0 0, .slice none 0 0] 35 (0, 0)) (by (with_reducible repeat (first | refine blk_drewN ?_ _ | refine blk_drew ?_ | refine blk_alloc ?_ _)); exact BK102.out)) : gb109 ≠ gb102))
        clear HO105
        clear BK101
        clear BK102
        clear HB
        have HO105 := n0_
        have BK101 := n1_
        have BK102 := n2_
        have HB := n3_
        have BK109 := n4_
        have GW109 := n5_
        have GE109 := n6_
        have NB101_109 := n7_
        have NB109_101 := n8_
        have NB102_109 := n9_
        have NB109_102 := n10_
        clear n0_ n1_ n2_ n3_ n4_ n5_ n6_ n7_ n8_ n9_ n10_
        clear hb hbox hg
        refine hK.out _ _ ⟨(blk_cell BK101.out 0).trans rfl, (blk_cell BK101.out 1).trans rfl, (blk_cell BK101.out 2).trans rfl⟩ (fun hHeld => ?_)
        clear hK K
        refine norm_ (a' := ?_) ?_ ?_
        rotate_left
        · show Act.put _ (some 3) _ = _
          simp only [Act.put, List.setIfInBounds_toArray, List.set_cons_zero, List.set_cons_succ, i64_w, i32_w]
          rfl
        refine one_ (i := 5) (N := some 11) #[true, true, true, true, true, true, false, true, false] rfl rfl (one_of HT_.out (by kernel_rfl)) (by decide) (fun K hK => ?_)
        refine goes_ Try.func36 (by kernel_rfl) rfl #[.slice A0_2 l0_2.length c0_2] (by rfl) rfl rfl (by (try simp only [List.map_toArray, List.map_cons, List.map_nil]); first | done | rfl | (simp only [List.length_drop, List.length_take]; rfl)) ?_
        with_reducible refine (slices_Clone_int_int.calls _ _ l0_2 t106 _ ?side1 ?side2 A3.out).mono ?_
        (case side1 => repeat (first | exact (Kd.C_below HR0_2.out HB.out) | (with_reducible refine Kd.C_alloc ?_ _) | (with_reducible refine Kd.C_drewN ?_ _) | (with_reducible refine Kd.C_drew ?_)))
        (case side2 => exact HC0_2.out)
        rintro e w9 ⟨v107, rfl, ho0, hb⟩
        refine ⟨_, rfl, ?_⟩
        have n0_ := Aside0.mk (Kd.R_elder' (by (with_reducible repeat (first | apply Kd.R_alloc | apply Kd.R_drewN | apply Kd.R_drew)); exact HO105.out) (Kd.R_base ho0) hb)
        have n1_ := Aside0.mk (Kd.R_lower (Kd.R_new' ho0 (Kd.R_lt (by (with_reducible repeat (first | apply Kd.R_alloc | apply Kd.R_drewN | apply Kd.R_drew)); exact HO105.out))) (below_size (by repeat (first | (with_reducible first | exact HB.out | apply below_alloc | apply pw_below_drewN | apply below_drew1 | refine below_set ?_ GE101.out | refine below_set ?_ GE102.out | refine below_set ?_ GE109.out) | exact HB.out))))
        have n2_ := Aside0.mk (blk_below (g := gb101) (o := .cells #[.slice A0_0 l0_0.length c0_0, .slice A0_1 l0_1.length c0_1, .slice A0_2 l0_2.length c0_2] 35 (0, 0)) (by (with_reducible repeat (first | refine blk_drewN ?_ _ | refine blk_drew ?_ | refine blk_alloc ?_ _)); exact BK101.out) hb)
        have n3_ := Aside0.mk (blk_below (g := gb102) (o := .cells #[.slice none 0 0, .slice none 0 0, .slice none 0 0] 35 (0, 0)) (by (with_reducible repeat (first | refine blk_drewN ?_ _ | refine blk_drew ?_ | refine blk_alloc ?_ _)); exact BK102.out) hb)
        have n4_ := Aside0.mk (blk_below (g := gb109) (o := .cells #[.slice none 0 0, .slice none 0 0, .slice none 0 0] 35 (0, 0)) (by (with_reducible repeat (first | refine blk_drewN ?_ _ | refine blk_drew ?_ | refine blk_alloc ?_ _)); exact BK109.out) hb)
        have n5_ := Aside0.mk (below_step (by repeat (first | (with_reducible first | exact HB.out | apply below_alloc | apply pw_below_drewN | apply below_drew1 | refine below_set ?_ GE101.out | refine below_set ?_ GE102.out | refine below_set ?_ GE109.out) | exact HB.out)) hb)
        clear HO105
        clear BK101
        clear BK102
        clear BK109
        clear HB
        have HO105 := n0_
        have HO108 := n1_
        have BK101 := n2_
        have BK102 := n3_
        have BK109 := n4_
        have HB := n5_
        clear n0_ n1_ n2_ n3_ n4_ n5_
        (try clear hb)
        (try clear hb2)
        (try clear hk)
        (try clear hi)
        (try clear ho0)
        obtain ⟨Ao10, co10, eo10⟩ := Kd.R_slice HO108.out
        (first | subst eo10 | (injection eo10 with f1_ f2_ f3_; have f4_ := f1_.symm; have f5_ := f3_.symm; clear f1_ f2_ f3_; subst f4_; subst f5_))
        obtain ⟨Ao11, co11, eo11⟩ := Kd.R_slice HO105.out
        (first | subst eo11 | (injection eo11 with f1_ f2_ f3_; have f4_ := f1_.symm; have f5_ := f3_.symm; clear f1_ f2_ f3_; subst f4_; subst f5_))
        refine hK.out _ _ ⟨(blk_cell BK101.out 0).trans rfl, (blk_cell BK101.out 1).trans rfl, (blk_cell BK101.out 2).trans rfl⟩ (fun hHeld => ?_)
        clear hK K
        refine norm_ (a' := ?_) ?_ ?_
        rotate_left
        · show Act.put _ (some 11) _ = _
          simp only [Act.put, List.setIfInBounds_toArray, List.set_cons_zero, List.set_cons_succ, i64_w, i32_w]
          rfl
        refine pure_ (i := 6) (N := some 12) (v := ?_) (a' := ?_) #[true, true, true, true, true, true, true, true, false] rfl rfl (any_of HT_.out (by kernel_rfl)) (fun _ _ _ h => h) (Or.inl ⟨by rfl, ?_⟩) ?_ ?_
        rotate_left
        · intro w'
          go_simp
          with_reducible rfl
        rotate_left
        · simp only [Act.put, List.setIfInBounds_toArray, List.set_cons_zero, List.set_cons_succ, i64_w, i32_w]
          rfl
        exact norm_ (by simp only [putAll, Act.put, List.setIfInBounds_toArray, List.set_cons_zero, List.set_cons_succ]) (hCont (.slice Ao11 t103.length co11, .slice Ao10 t106.length co10, gb109) _ ⟨hHeld, (by (with_reducible repeat (first | apply Kd.R_alloc | apply Kd.R_drewN | apply Kd.R_drew)); exact Kd.R_mono HO105.out (fun _ hk => hk.2)), (by (with_reducible repeat (first | apply Kd.R_alloc | apply Kd.R_drewN | apply Kd.R_drew)); exact Kd.R_mono HO108.out (fun _ hk => hk.2)), (by (with_reducible repeat (first | refine blk_drewN ?_ _ | refine blk_drew ?_ | refine blk_alloc ?_ _)); exact BK101.out), (by (with_reducible repeat (first | refine blk_drewN ?_ _ | refine blk_drew ?_ | refine blk_alloc ?_ _)); exact BK102.out), (by (with_reducible repeat (first | refine blk_drewN ?_ _ | refine blk_drew ?_ | refine blk_alloc ?_ _)); exact BK109.out), GW109.out, GE109.out, NB101_109.out, NB109_101.out, NB102_109.out, NB109_102.out, (by repeat (first | (with_reducible first | exact HB.out | apply below_alloc | apply pw_below_drewN | apply below_drew1 | refine below_set ?_ GE101.out | refine below_set ?_ GE102.out | refine below_set ?_ GE109.out) | exact HB.out))⟩)
    · skip
      refine box_step ?hg (N := 3) ?hd (cs := #[.slice none 0 0, .slice none 0 0, .slice none 0 0]) (t := 35) ?hr ?_; (case hd => rfl); (case hg => rfl); (case hr => first | (go_simp; done) | (go_simp; rfl))
      intro gb109 hg w7 hbox hb
      have n0_ := Aside0.mk (blk_below (g := gb101) (o := .cells #[.slice A0_0 l0_0.length c0_0, .slice A0_1 l0_1.length c0_1, .slice A0_2 l0_2.length c0_2] 35 (0, 0)) (by (with_reducible repeat (first | refine blk_drewN ?_ _ | refine blk_drew ?_ | refine blk_alloc ?_ _)); exact BK101.out) hb)
      have n1_ := Aside0.mk (blk_below (g := gb102) (o := .cells #[.slice none 0 0, .slice none 0 0, .slice none 0 0] 35 (0, 0)) (by (with_reducible repeat (first | refine blk_drewN ?_ _ | refine blk_drew ?_ | refine blk_alloc ?_ _)); exact BK102.out) hb)
      have n2_ := Aside0.mk (below_step (by repeat (first | (with_reducible first | exact HB.out | apply below_alloc | apply pw_below_drewN | apply below_drew1 | refine below_set ?_ GE101.out | refine below_set ?_ GE102.out) | exact HB.out)) hb)
      have n3_ := Aside0.mk (hbox)
      have n4_ := Aside0.mk ((by rw [hg]; exact (below_size (by repeat (first | (with_reducible first | exact HB.out | apply below_alloc | apply pw_below_drewN | apply below_drew1 | refine below_set ?_ GE101.out | refine below_set ?_ GE102.out) | exact HB.out))) : w.heap.size ≤ gb109))
      have n5_ := Aside0.mk ((by rw [hg]; exact (below_size (by repeat (first | (with_reducible first | exact HB.out | apply below_alloc | apply pw_below_drewN | apply below_drew1 | refine below_set ?_ GE101.out | refine below_set ?_ GE102.out) | exact HB.out))) : w.heap.size ≤ gb109))
      have n6_ := Aside0.mk ((by rw [hg]; exact Nat.ne_of_lt (blk_lt (g := gb101) (o := .cells #[.slice A0_0 l0_0.length c0_0, .slice A0_1 l0_1.length c0_1, .slice A0_2 l0_2.length c0_2] 35 (0, 0)) (by (with_reducible repeat (first | refine blk_drewN ?_ _ | refine blk_drew ?_ | refine blk_alloc ?_ _)); exact BK101.out)) : gb101 ≠ gb109))
      have n7_ := Aside0.mk ((by rw [hg]; exact Nat.ne_of_gt (blk_lt (g := gb101) (o := .cells #[.slice A0_0 l0_0.length c0_0, .slice A0_1 l0_1.length c0_1, .slice A0_2 l0_2.length c0_2] 35 (0, 0)) (by (with_reducible repeat (first | refine blk_drewN ?_ _ | refine blk_drew ?_ | refine blk_alloc ?_ _)); exact BK101.out)) : gb109 ≠ gb101))
      have n8_ := Aside0.mk ((by rw [hg]; exact Nat.ne_of_lt (blk_lt (g := gb102) (o := .cells #[.slice none 0 0, .slice none 0 0, .slice none 0 0] 35 (0, 0)) (by (with_reducible repeat (first | refine blk_drewN ?_ _ | refine blk_drew ?_ | refine blk_alloc ?_ _)); exact BK102.out)) : gb102 ≠ gb109))
      have n9_ := Aside0.mk ((by rw [hg]; exact Nat.ne_of_gt (blk_lt (g := gb102) (o := .cells #[.slice none 0 0, .slice none 0 0, .slice none 0 0] 35 (0, 0)) (by (with_reducible repeat (first | refine blk_drewN ?_ _ | refine blk_drew ?_ | refine blk_alloc ?_ _)); exact BK102.out)) : gb109 ≠ gb102))
      clear BK101
      clear BK102
      clear HB
      have BK101 := n0_
      have BK102 := n1_
      have HB := n2_
      have BK109 := n3_
      have GW109 := n4_
      have GE109 := n5_
      have NB101_109 := n6_
      have NB109_101 := n7_
      have NB102_109 := n8_
      have NB109_102 := n9_
      clear n0_ n1_ n2_ n3_ n4_ n5_ n6_ n7_ n8_ n9_
      clear hb hbox hg
      refine hK.out _ _ ⟨(blk_cell BK101.out 0).trans rfl, (blk_cell BK101.out 1).trans rfl, (blk_cell BK101.out 2).trans rfl⟩ (fun hHeld => ?_)
      clear hK K
      refine norm_ (a' := ?_) ?_ ?_
      rotate_left
      · show Act.put _ (some 3) _ = _
        simp only [Act.put, List.setIfInBounds_toArray, List.set_cons_zero, List.set_cons_succ, i64_w, i32_w]
        rfl
      refine one_ (i := 2) (N := some 8) #[true, true, true, true, true, false, false, true, false] rfl rfl (one_of HT_.out (by kernel_rfl)) (by decide) (fun K hK => ?_)
      refine goes_ Try.func36 (by kernel_rfl) rfl #[.slice A0_1 l0_1.length c0_1] (by rfl) rfl rfl (by (try simp only [List.map_toArray, List.map_cons, List.map_nil]); first | done | rfl | (simp only [List.length_drop, List.length_take]; rfl)) ?_
      with_reducible refine (slices_Clone_int_int.calls _ _ l0_1 t103 _ ?side1 ?side2 A2.out).mono ?_
      (case side1 => repeat (first | exact (Kd.C_below HR0_1.out HB.out) | (with_reducible refine Kd.C_alloc ?_ _) | (with_reducible refine Kd.C_drewN ?_ _) | (with_reducible refine Kd.C_drew ?_)))
      (case side2 => exact HC0_1.out)
      rintro e w8 ⟨v104, rfl, ho0, hb⟩
      refine ⟨_, rfl, ?_⟩
      have n0_ := Aside0.mk (Kd.R_lower ho0 (below_size (by repeat (first | (with_reducible first | exact HB.out | apply below_alloc | apply pw_below_drewN | apply below_drew1 | refine below_set ?_ GE101.out | refine below_set ?_ GE102.out | refine below_set ?_ GE109.out) | exact HB.out))))
      have n1_ := Aside0.mk (blk_below (g := gb101) (o := .cells #[.slice A0_0 l0_0.length c0_0, .slice A0_1 l0_1.length c0_1, .slice A0_2 l0_2.length c0_2] 35 (0, 0)) (by (with_reducible repeat (first | refine blk_drewN ?_ _ | refine blk_drew ?_ | refine blk_alloc ?_ _)); exact BK101.out) hb)
      have n2_ := Aside0.mk (blk_below (g := gb102) (o := .cells #[.slice none 0 0, .slice none 0 0, .slice none 0 0] 35 (0, 0)) (by (with_reducible repeat (first | refine blk_drewN ?_ _ | refine blk_drew ?_ | refine blk_alloc ?_ _)); exact BK102.out) hb)
      have n3_ := Aside0.mk (blk_below (g := gb109) (o := .cells #[.slice none 0 0, .slice none 0 0, .slice none 0 0] 35 (0, 0)) (by (with_reducible repeat (first | refine blk_drewN ?_ _ | refine blk_drew ?_ | refine blk_alloc ?_ _)); exact BK109.out) hb)
      have n4_ := Aside0.mk (below_step (by repeat (first | (with_reducible first | exact HB.out | apply below_alloc | apply pw_below_drewN | apply below_drew1 | refine below_set ?_ GE101.out | refine below_set ?_ GE102.out | refine below_set ?_ GE109.out) | exact HB.out)) hb)
      clear BK101
      clear BK102
      clear BK109
      clear HB
      have HO105 := n0_
      have BK101 := n1_
      have BK102 := n2_
      have BK109 := n3_
      have HB := n4_
      clear n0_ n1_ n2_ n3_ n4_
      (try clear hb)
      (try clear hb2)
      (try clear hk)
      (try clear hi)
      (try clear ho0)
      refine hK.out _ _ ⟨(blk_cell BK101.out 0).trans rfl, (blk_cell BK101.out 1).trans rfl, (blk_cell BK101.out 2).trans rfl⟩ (fun hHeld => ?_)
      clear hK K
      refine norm_ (a' := ?_) ?_ ?_
      rotate_left
      · show Act.put _ (some 8) _ = _
        simp only [Act.put, List.setIfInBounds_toArray, List.set_cons_zero, List.set_cons_succ, i64_w, i32_w]
        rfl
      refine one_ (i := 5) (N := some 11) #[true, true, true, true, true, true, false, true, false] rfl rfl (one_of HT_.out (by kernel_rfl)) (by decide) (fun K hK => ?_)
      refine goes_ Try.func36 (by kernel_rfl) rfl #[.slice A0_2 l0_2.length c0_2] (by rfl) rfl rfl (by (try simp only [List.map_toArray, List.map_cons, List.map_nil]); first | done | rfl | (simp only [List.length_drop, List.length_take]; rfl)) ?_
      with_reducible refine (slices_Clone_int_int.calls _ _ l0_2 t106 _ ?side1 ?side2 A3.out).mono ?_
      (case side1 => repeat (first | exact (Kd.C_below HR0_2.out HB.out) | (with_reducible refine Kd.C_alloc ?_ _) | (with_reducible refine Kd.C_drewN ?_ _) | (with_reducible refine Kd.C_drew ?_)))
      (case side2 => exact HC0_2.out)
      rintro e w9 ⟨v107, rfl, ho0, hb⟩
      refine ⟨_, rfl, ?_⟩
      have n0_ := Aside0.mk (Kd.R_elder' (by (with_reducible repeat (first | apply Kd.R_alloc | apply Kd.R_drewN | apply Kd.R_drew)); exact HO105.out) (Kd.R_base ho0) hb)
      have n1_ := Aside0.mk (Kd.R_lower (Kd.R_new' ho0 (Kd.R_lt (by (with_reducible repeat (first | apply Kd.R_alloc | apply Kd.R_drewN | apply Kd.R_drew)); exact HO105.out))) (below_size (by repeat (first | (with_reducible first | exact HB.out | apply below_alloc | apply pw_below_drewN | apply below_drew1 | refine below_set ?_ GE101.out | refine below_set ?_ GE102.out | refine below_set ?_ GE109.out) | exact HB.out))))
      have n2_ := Aside0.mk (blk_below (g := gb101) (o := .cells #[.slice A0_0 l0_0.length c0_0, .slice A0_1 l0_1.length c0_1, .slice A0_2 l0_2.length c0_2] 35 (0, 0)) (by (with_reducible repeat (first | refine blk_drewN ?_ _ | refine blk_drew ?_ | refine blk_alloc ?_ _)); exact BK101.out) hb)
      have n3_ := Aside0.mk (blk_below (g := gb102) (o := .cells #[.slice none 0 0, .slice none 0 0, .slice none 0 0] 35 (0, 0)) (by (with_reducible repeat (first | refine blk_drewN ?_ _ | refine blk_drew ?_ | refine blk_alloc ?_ _)); exact BK102.out) hb)
      have n4_ := Aside0.mk (blk_below (g := gb109) (o := .cells #[.slice none 0 0, .slice none 0 0, .slice none 0 0] 35 (0, 0)) (by (with_reducible repeat (first | refine blk_drewN ?_ _ | refine blk_drew ?_ | refine blk_alloc ?_ _)); exact BK109.out) hb)
      have n5_ := Aside0.mk (below_step (by repeat (first | (with_reducible first | exact HB.out | apply below_alloc | apply pw_below_drewN | apply below_drew1 | refine below_set ?_ GE101.out | refine below_set ?_ GE102.out | refine below_set ?_ GE109.out) | exact HB.out)) hb)
      clear HO105
      clear BK101
      clear BK102
      clear BK109
      clear HB
      have HO105 := n0_
      have HO108 := n1_
      have BK101 := n2_
      have BK102 := n3_
      have BK109 := n4_
      have HB := n5_
      clear n0_ n1_ n2_ n3_ n4_ n5_
      (try clear hb)
      (try clear hb2)
      (try clear hk)
      (try clear hi)
      (try clear ho0)
      obtain ⟨Ao10, co10, eo10⟩ := Kd.R_slice HO108.out
      (first | subst eo10 | (injection eo10 with f1_ f2_ f3_; have f4_ := f1_.symm; have f5_ := f3_.symm; clear f1_ f2_ f3_; subst f4_; subst f5_))
      obtain ⟨Ao11, co11, eo11⟩ := Kd.R_slice HO105.out
      (first | subst eo11 | (injection eo11 with f1_ f2_ f3_; have f4_ := f1_.symm; have f5_ := f3_.symm; clear f1_ f2_ f3_; subst f4_; subst f5_))
      refine hK.out _ _ ⟨(blk_cell BK101.out 0).trans rfl, (blk_cell BK101.out 1).trans rfl, (blk_cell BK101.out 2).trans rfl⟩ (fun hHeld => ?_)
      clear hK K
      refine norm_ (a' := ?_) ?_ ?_
      rotate_left
      · show Act.put _ (some 11) _ = _
        simp only [Act.put, List.setIfInBounds_toArray, List.set_cons_zero, List.set_cons_succ, i64_w, i32_w]
        rfl
      refine pure_ (i := 6) (N := some 12) (v := ?_) (a' := ?_) #[true, true, true, true, true, true, true, true, false] rfl rfl (any_of HT_.out (by kernel_rfl)) (fun _ _ _ h => h) (Or.inl ⟨by rfl, ?_⟩) ?_ ?_
      rotate_left
      · intro w'
        go_simp
        with_reducible rfl
      rotate_left
      · simp only [Act.put, List.setIfInBounds_toArray, List.set_cons_zero, List.set_cons_succ, i64_w, i32_w]
        rfl
      exact norm_ (by simp only [putAll, Act.put, List.setIfInBounds_toArray, List.set_cons_zero, List.set_cons_succ]) (hCont (.slice Ao11 t103.length co11, .slice Ao10 t106.length co10, gb109) _ ⟨hHeld, (by (with_reducible repeat (first | apply Kd.R_alloc | apply Kd.R_drewN | apply Kd.R_drew)); exact Kd.R_mono HO105.out (fun _ hk => hk.2)), (by (with_reducible repeat (first | apply Kd.R_alloc | apply Kd.R_drewN | apply Kd.R_drew)); exact Kd.R_mono HO108.out (fun _ hk => hk.2)), (by (with_reducible repeat (first | refine blk_drewN ?_ _ | refine blk_drew ?_ | refine blk_alloc ?_ _)); exact BK101.out), (by (with_reducible repeat (first | refine blk_drewN ?_ _ | refine blk_drew ?_ | refine blk_alloc ?_ _)); exact BK102.out), (by (with_reducible repeat (first | refine blk_drewN ?_ _ | refine blk_drew ?_ | refine blk_alloc ?_ _)); exact BK109.out), GW109.out, GE109.out, NB101_109.out, NB109_101.out, NB102_109.out, NB109_102.out, (by repeat (first | (with_reducible first | exact HB.out | apply below_alloc | apply pw_below_drewN | apply below_drew1 | refine below_set ?_ GE101.out | refine below_set ?_ GE102.out | refine below_set ?_ GE109.out) | exact HB.out))⟩)
  rintro ⟨v104, v107, gb109⟩ w12 ⟨hS_, h0_, h1_, h2_, h3_, h4_, h5_, h6_, h7_, h8_, h9_, h10_, h11_⟩
  have n0_ : Aside0 (Kd.R (Kd.int .i64) 3 w12 w.heap.size (fun k_ => some k_ ≠ (v107 : Value).ownBlock) v104 t103) := ⟨h0_⟩
  have n1_ : Aside0 (Kd.R (Kd.int .i64) 3 w12 w.heap.size (fun k_ => some k_ ≠ (v104 : Value).ownBlock) v107 t106) := ⟨h1_⟩
  have n2_ : Aside0 (w12.heap[gb101]? = some (.cells #[.slice A0_0 l0_0.length c0_0, .slice A0_1 l0_1.length c0_1, .slice A0_2 l0_2.length c0_2] 35 (0, 0))) := ⟨h2_⟩
  have n3_ : Aside0 (w12.heap[gb102]? = some (.cells #[.slice none 0 0, .slice none 0 0, .slice none 0 0] 35 (0, 0))) := ⟨h3_⟩
  have n4_ : Aside0 (w12.heap[gb109]? = some (.cells #[.slice none 0 0, .slice none 0 0, .slice none 0 0] 35 (0, 0))) := ⟨h4_⟩
  have n5_ : Aside0 (w.heap.size ≤ gb109) := ⟨h5_⟩
  have n6_ : Aside0 (w.heap.size ≤ gb109) := ⟨h6_⟩
  have n7_ : Aside0 (gb101 ≠ gb109) := ⟨h7_⟩
  have n8_ : Aside0 (gb109 ≠ gb101) := ⟨h8_⟩
  have n9_ : Aside0 (gb102 ≠ gb109) := ⟨h9_⟩
  have n10_ : Aside0 (gb109 ≠ gb102) := ⟨h10_⟩
  have n11_ : Aside0 (Below w.heap.size w w12) := ⟨h11_⟩
  clear BK101
  clear BK102
  clear HB
  clear h0_ h1_ h2_ h3_ h4_ h5_ h6_ h7_ h8_ h9_ h10_ h11_
  have HO105 := n0_
  have HO108 := n1_
  have BK101 := n2_
  have BK102 := n3_
  have BK109 := n4_
  have GW109 := n5_
  have GE109 := n6_
  have NB101_109 := n7_
  have NB109_101 := n8_
  have NB102_109 := n9_
  have NB109_102 := n10_
  have HB := n11_
  clear n0_ n1_ n2_ n3_ n4_ n5_ n6_ n7_ n8_ n9_ n10_ n11_
  have hHeld : w12.cell? ⟨gb101, 0, none⟩ = some (.slice A0_0 l0_0.length c0_0) ∧ w12.cell? ⟨gb101, 1, none⟩ = some (.slice A0_1 l0_1.length c0_1) ∧ w12.cell? ⟨gb101, 2, none⟩ = some (.slice A0_2 l0_2.length c0_2) := hS_
  obtain ⟨Ao13, co13, eo13⟩ := Kd.R_slice HO108.out
  (first | subst eo13 | (injection eo13 with f1_ f2_ f3_; have f4_ := f1_.symm; have f5_ := f3_.symm; clear f1_ f2_ f3_; subst f4_; subst f5_))
  obtain ⟨Ao14, co14, eo14⟩ := Kd.R_slice HO105.out
  (first | subst eo14 | (injection eo14 with f1_ f2_ f3_; have f4_ := f1_.symm; have f5_ := f3_.symm; clear f1_ f2_ f3_; subst f4_; subst f5_))
  refine norm_ (a' := ?_) ?_ ?_
  rotate_left
  · simp only [putAll, Act.put, List.setIfInBounds_toArray, List.set_cons_zero, List.set_cons_succ]
    rfl
  refine one_ (i := 8) (N := none) #[true, true, true, true, true, true, true, true, true] rfl rfl (one_of HT_.out (by kernel_rfl)) (by decide) (fun K hK => ?_)
  have hs15 : w12.cell? ⟨gb109, 0, none⟩ = some (.slice none 0 0) := (blk_cell BK109.out 0).trans rfl
  have hfs15 := blk_frozen BK109.out 0
  have hns15_0 := NB101_109.out
  have hns15_1 := NB102_109.out
  have hms15_0 := NB109_101.out
  have hms15_1 := NB109_102.out
  have hs16 : w12.cell? ⟨gb109, 1, none⟩ = some (.slice none 0 0) := (blk_cell BK109.out 1).trans rfl
  have hfs16 := blk_frozen BK109.out 1
  have hns16_0 := NB101_109.out
  have hns16_1 := NB102_109.out
  have hms16_0 := NB109_101.out
  have hms16_1 := NB109_102.out
  have hs17 : w12.cell? ⟨gb109, 2, none⟩ = some (.slice none 0 0) := (blk_cell BK109.out 2).trans rfl
  have hfs17 := blk_frozen BK109.out 2
  have hns17_0 := NB101_109.out
  have hns17_1 := NB102_109.out
  have hms17_0 := NB109_101.out
  have hms17_1 := NB109_102.out
  refine skip_ (w1 := ?_) (by rfl) rfl ?_ ?_
  rotate_left
  · go_simp
    rfl
  refine hK.out _ _ ⟨((cell_far (p := ⟨gb109, _, none⟩) NB101_109.out _).trans (((cell_far (p := ⟨gb109, _, none⟩) NB101_109.out _).trans (((cell_far (p := ⟨gb109, _, none⟩) NB101_109.out _).trans (hHeld.1)))))), ((cell_far (p := ⟨gb109, _, none⟩) NB101_109.out _).trans (((cell_far (p := ⟨gb109, _, none⟩) NB101_109.out _).trans (((cell_far (p := ⟨gb109, _, none⟩) NB101_109.out _).trans (hHeld.2.1)))))), ((cell_far (p := ⟨gb109, _, none⟩) NB101_109.out _).trans (((cell_far (p := ⟨gb109, _, none⟩) NB101_109.out _).trans (((cell_far (p := ⟨gb109, _, none⟩) NB101_109.out _).trans (hHeld.2.2))))))⟩ (fun hHeld => ?_)
  clear hK K
  refine done_ (done_of HT_.out (by kernel_rfl)) ?_
  have hnb18 := NB101_102.out
  have hnc18 := NB102_101.out
  have hnb19 := NB101_109.out
  have hnc19 := NB109_101.out
  have hcz20_0 : w12.cell? ⟨gb101, 0, none⟩ = some (.slice A0_0 l0_0.length c0_0) := (blk_cell BK101.out 0).trans rfl
  have hcz20_1 : w12.cell? ⟨gb101, 1, none⟩ = some (.slice A0_1 l0_1.length c0_1) := (blk_cell BK101.out 1).trans rfl
  have hcz20_2 : w12.cell? ⟨gb101, 2, none⟩ = some (.slice A0_2 l0_2.length c0_2) := (blk_cell BK101.out 2).trans rfl
  have hfz20_0 := blk_frozen BK101.out 0
  have hfz20_1 := blk_frozen BK101.out 1
  have hfz20_2 := blk_frozen BK101.out 2
  try go_wp2
  go_loopg [16] k (fun kq v16 w' => ∃ (x16_1 : Int) (x110000_1 : List (List Int)) (u110000 : Value), v16 = .int .i64 x16_1 ∧ Aside0 (state_Clone.l0 kq l0_0 (l0_0.length : Int) x16_1 x110000_1 t103 t106 = some (r1, r2, r3)) ∧ Aside0 (kq ≤ k) ∧ Aside0 (Kd.S (Kd.slice 3 (Kd.int .i64)) 33 w' w.heap.size (fun k_ => some k_ ≠ ((.slice Ao14 t103.length co14) : Value).ownBlock ∧ some k_ ≠ ((.slice Ao13 t106.length co13) : Value).ownBlock) u110000 x110000_1) ∧ Aside0 (Kd.R (Kd.int .i64) 3 w' w.heap.size (fun k_ => some k_ ≠ ((.slice Ao13 t106.length co13) : Value).ownBlock) (.slice Ao14 t103.length co14) t103) ∧ Aside0 (Kd.R (Kd.int .i64) 3 w' w.heap.size (fun k_ => some k_ ≠ ((.slice Ao14 t103.length co14) : Value).ownBlock) (.slice Ao13 t106.length co13) t106) ∧ Aside0 (w'.heap[gb101]? = some (.cells #[(.slice A0_0 l0_0.length c0_0), (.slice A0_1 l0_1.length c0_1), (.slice A0_2 l0_2.length c0_2)] 35 (0, 0))) ∧ Aside0 (w'.heap[gb102]? = some (.cells #[(.slice none 0 0), (.slice none 0 0), (.slice none 0 0)] 35 (0, 0))) ∧ Aside0 (w'.heap[gb109]? = some (.cells #[u110000, (.slice Ao14 t103.length co14), (.slice Ao13 t106.length co13)] 35 (0, 0))) ∧ Aside0 (Below w.heap.size w w'))
  case atStart => exact ⟨(0), (([] : List (List Int))), (.slice none 0 0), (by first | rfl | (simp; done) | (simp [*]; done)), H', ⟨Nat.le_refl _⟩, ⟨by first | exact Kd.S_nil _ _ _ _ _ | exact Kd.N_nil _ _ _ _ _ | exact Kd.V_nil _ _ _ _ _ | exact Kd.Q_nil _ _ _ _ _ | exact Kd.R_nil _ _ _ _ _⟩, ⟨by (with_reducible repeat (first | apply Kd.R_alloc | apply Kd.R_drewN | apply Kd.R_drew)); exact Kd.R_mono (Kd.R_far (p := ⟨gb109, 2, none⟩) (Kd.R_far (p := ⟨gb109, 1, none⟩) (Kd.R_far (p := ⟨gb109, 0, none⟩) (Kd.R_types HO105.out BK109.out (by decide)) (fun _ hk => hk.2) (.slice none 0 0)) (fun _ hk => hk.2) (.slice Ao14 t103.length co14)) (fun _ hk => hk.2) (.slice Ao13 t106.length co13)) (fun _ hk => hk.1)⟩, ⟨by (with_reducible repeat (first | apply Kd.R_alloc | apply Kd.R_drewN | apply Kd.R_drew)); exact Kd.R_mono (Kd.R_far (p := ⟨gb109, 2, none⟩) (Kd.R_far (p := ⟨gb109, 1, none⟩) (Kd.R_far (p := ⟨gb109, 0, none⟩) (Kd.R_types HO108.out BK109.out (by decide)) (fun _ hk => hk.2) (.slice none 0 0)) (fun _ hk => hk.2) (.slice Ao14 t103.length co14)) (fun _ hk => hk.2) (.slice Ao13 t106.length co13)) (fun _ hk => hk.1)⟩, ⟨by (with_reducible repeat (first | refine blk_drewN ?_ _ | refine blk_drew ?_ | refine blk_alloc ?_ _)); refine blk_far ?_ NB101_109.out _; (with_reducible repeat (first | refine blk_drewN ?_ _ | refine blk_drew ?_ | refine blk_alloc ?_ _)); refine blk_far ?_ NB101_109.out _; (with_reducible repeat (first | refine blk_drewN ?_ _ | refine blk_drew ?_ | refine blk_alloc ?_ _)); refine blk_far ?_ NB101_109.out _; (with_reducible repeat (first | refine blk_drewN ?_ _ | refine blk_drew ?_ | refine blk_alloc ?_ _)); exact BK101.out⟩, ⟨by (with_reducible repeat (first | refine blk_drewN ?_ _ | refine blk_drew ?_ | refine blk_alloc ?_ _)); refine blk_far ?_ NB102_109.out _; (with_reducible repeat (first | refine blk_drewN ?_ _ | refine blk_drew ?_ | refine blk_alloc ?_ _)); refine blk_far ?_ NB102_109.out _; (with_reducible repeat (first | refine blk_drewN ?_ _ | refine blk_drew ?_ | refine blk_alloc ?_ _)); refine blk_far ?_ NB102_109.out _; (with_reducible repeat (first | refine blk_drewN ?_ _ | refine blk_drew ?_ | refine blk_alloc ?_ _)); exact BK102.out⟩, ⟨by (with_reducible repeat (first | refine blk_drewN ?_ _ | refine blk_drew ?_ | refine blk_alloc ?_ _)); refine blk_put (cs := #[.slice none 0 0, .slice Ao14 t103.length co14, .slice none 0 0]) ?_ 2 _ rfl; (with_reducible repeat (first | refine blk_drewN ?_ _ | refine blk_drew ?_ | refine blk_alloc ?_ _)); refine blk_put (cs := #[.slice none 0 0, .slice none 0 0, .slice none 0 0]) ?_ 1 _ rfl; (with_reducible repeat (first | refine blk_drewN ?_ _ | refine blk_drew ?_ | refine blk_alloc ?_ _)); refine blk_put (cs := #[.slice none 0 0, .slice none 0 0, .slice none 0 0]) ?_ 0 _ rfl; (with_reducible repeat (first | refine blk_drewN ?_ _ | refine blk_drew ?_ | refine blk_alloc ?_ _)); exact BK109.out⟩, ⟨by repeat (first | (with_reducible first | exact HB.out | apply below_alloc | apply pw_below_drewN | apply below_drew1 | refine below_set ?_ GE101.out | refine below_set ?_ GE102.out | refine below_set ?_ GE109.out) | exact HB.out)⟩⟩
  case round =>
    clear H'
    try clear c1
    try clear c2
    try clear p2
    try clear c3
    try clear c18
    try clear c19
    try clear hcz20_0
    try clear hcz20_1
    try clear hcz20_2
    try clear hfz20_0
    try clear hfz20_1
    try clear hfz20_2
    obtain ⟨x16_1, x110000_1, u110000, rfl, HA, HK1, HO_110000, HO_110001, HO_110002, BK101, BK102, BK109, HB⟩ := hrel
    cases gk with
    | zero => exact absurd HA.out (by simp [state_Clone.l0])
    | succ k1 =>
      have H := HA.out
      clear HA
      simp only [state_Clone.l0] at H
      by_cases c21 : x16_1 < (l0_0.length : Int)
      · rw [if_pos c21] at H
        have c21b0 : decide (x16_1 < (l0_0.length : Int)) = true := decide_eq_true c21
        clear c21
        by_cases c22 : 0 ≤ x16_1
        · rw [if_pos c22] at H
          have c22b0 : decide (0 ≤ x16_1) = true := decide_eq_true c22
          clear c22
          by_cases c23 : x16_1 < (l0_0.length : Int)
          · rw [if_pos c23] at H
            have c23b0 : decide (x16_1 < (l0_0.length : Int)) = true := decide_eq_true c23
            clear c23
            replace H := Option.bind_eq_some_iff.mp H
            obtain ⟨t111, A240, H⟩ := H
            replace H : (if x110000_1.length < 5864062014805 then (state_Clone.l0 k1 l0_0 (l0_0.length : Int) (wrap64 (x16_1 + 1)) (x110000_1 ++ [t111]) t103 t106) else (none)) = some (r1, r2, r3) := H
            have A24 := Aside0.mk A240
            clear A240
            by_cases c25 : x110000_1.length < 5864062014805
            · rw [if_pos c25] at H
              have LMc25 := Aside0.mk c25
              clear c25
              obtain ⟨y114, hy114⟩ : ∃ y_ : List (List Int), y_ = (x110000_1 ++ [t111]) := ⟨_, rfl⟩
              replace H : (state_Clone.l0 k1 l0_0 (l0_0.length : Int) (wrap64 (x16_1 + 1)) y114 t103 t106) = some (r1, r2, r3) := by first | (rw [hy114]; with_reducible exact H) | (have H2_ := (Option.bind_some _ _).symm.trans H; rw [hy114]; with_reducible exact H2_) | (have H2_ := (Option.bind_some _ _).symm.trans H; with_reducible exact H2_) | with_reducible exact H | (rw [hy114]; exact H) | exact H
              have Ny114 := Aside0.mk hy114
              clear hy114
              have H' := Aside0.mk H
              clear H
              have p110 : 0 ≤ (x16_1 : Int) := of_decide_eq_true (by first | (with_reducible assumption) | assumption)
              have q110 : x16_1 < (l0_0.length : Int) := of_decide_eq_true (by first | (with_reducible assumption) | assumption)
              obtain ⟨ad110, A110_0, c110_0, e110, hx110_0, hl110_0, hi110_0⟩ := at_L7 HR0_0.out x16_1 p110 q110
              cases e110
              replace hx110_0 := (HB.out.cell (World.block_lt_of_cell? w _ hx110_0)).trans hx110_0
              have HR110_0 := Aside0.mk hi110_0
              have HC110_0 := Aside0.mk hl110_0
              clear hi110_0 hl110_0
              replace p110 := eq_true p110
              replace q110 := eq_true q110
              try go_wp2
              have n0_ := Aside0.mk (Kd.S_drew HO_110000.out)
              have n1_ := Aside0.mk (Kd.R_drew HO_110001.out)
              have n2_ := Aside0.mk (Kd.R_drew HO_110002.out)
              have n3_ := Aside0.mk (blk_drew BK101.out)
              have n4_ := Aside0.mk (blk_drew BK102.out)
              have n5_ := Aside0.mk (blk_drew BK109.out)
              have n6_ := Aside0.mk (below_drew1 HB.out)
              clear HO_110000
              clear HO_110001
              clear HO_110002
              clear BK101
              clear BK102
              clear BK109
              clear HB
              have HO_110000 := n0_
              have HO_110001 := n1_
              have HO_110002 := n2_
              have BK101 := n3_
              have BK102 := n4_
              have BK109 := n5_
              have HB := n6_
              clear n0_ n1_ n2_ n3_ n4_ n5_ n6_
              refine start_ (n := 8) (S := fun w' => w'.cell? ⟨gb109, 0, none⟩ = some (u110000) ∧ w'.cell? ⟨gb109, 1, none⟩ = some (.slice Ao14 t103.length co14) ∧ w'.cell? ⟨gb109, 2, none⟩ = some (.slice Ao13 t106.length co13)) (ds := [7]) #[false, false, false, false, false, false, false, false] (by kernel_rfl) rfl rfl ⟨(blk_cell BK109.out 0).trans rfl, (blk_cell BK109.out 1).trans rfl, (blk_cell BK109.out 2).trans rfl⟩ (fun hHeld => ?_); refine with_tabW state_Clone.tab5 state_Clone.bits5 (fun HT_ HW_ => ?_)
              generalize wr.drew = w26 at HO_110000 HO_110001 HO_110002 BK101 BK102 BK109 HB hHeld ⊢
              refine pure_ (i := 0) (N := some 20) (v := ?_) (a' := ?_) #[true, false, false, false, false, false, false, false] rfl rfl (any_of HT_.out (by kernel_rfl)) (fun _ _ _ h => h) (Or.inl ⟨by rfl, ?_⟩) ?_ ?_
              rotate_left
              · intro w'
                go_simp
                with_reducible rfl
              rotate_left
              · simp only [Act.put, List.setIfInBounds_toArray, List.set_cons_zero, List.set_cons_succ, i64_w, i32_w]
                rfl
              refine pure_ (i := 2) (N := some 22) (v := ?_) (a' := ?_) #[true, false, true, false, false, false, false, false] rfl rfl (any_of HT_.out (by kernel_rfl)) (fun _ _ _ h => h) (Or.inl ⟨by rfl, ?_⟩) ?_ ?_
              rotate_left
              · intro w'
                go_simp
                with_reducible rfl
              rotate_left
              · simp only [Act.put, List.setIfInBounds_toArray, List.set_cons_zero, List.set_cons_succ, i64_w, i32_w]
                rfl
              refine take_ (i := 1) (N := some 21) (v := ?_) (a' := ?_) #[true, true, true, false, false, false, false, false] rfl rfl (take_ofW HT_.out HW_.out (by kernel_rfl)) (fun _ _ _ h => h) (Or.inl ⟨by rfl, ?_⟩) hHeld ?_ ?_
              rotate_left
              · rintro w' ⟨s0, s1, s2⟩
                go_simp
                with_reducible rfl
              rotate_left
              · simp only [Act.put, List.setIfInBounds_toArray, List.set_cons_zero, List.set_cons_succ, i64_w, i32_w]
                rfl
              refine one_ (i := 3) (N := some 23) #[true, true, true, true, false, false, false, false] rfl rfl (one_of HT_.out (by kernel_rfl)) (by decide) (fun K hK => ?_)
              refine goes_ Try.func36 (by kernel_rfl) rfl #[.slice A110_0 (rd_L7 l0_0 x16_1).length c110_0] (by rfl) rfl rfl (by (try simp only [List.map_toArray, List.map_cons, List.map_nil]); first | done | rfl | (simp only [List.length_drop, List.length_take]; rfl)) ?_
              with_reducible refine (slices_Clone_int_int.calls _ _ (rd_L7 l0_0 x16_1) t111 _ ?side1 ?side2 A24.out).mono ?_
              (case side1 => repeat (first | exact (Kd.C_below HR110_0.out HB.out) | (with_reducible refine Kd.C_alloc ?_ _) | (with_reducible refine Kd.C_drewN ?_ _) | (with_reducible refine Kd.C_drew ?_)))
              (case side2 => exact HC110_0.out)
              rintro e w27 ⟨v112, rfl, ho0, hb⟩
              refine ⟨_, rfl, ?_⟩
              have n0_ := Aside0.mk (Kd.S_elder' (by (with_reducible repeat (first | apply Kd.S_alloc | apply Kd.S_drewN | apply Kd.S_drew)); exact HO_110000.out) (Kd.R_base ho0) hb)
              have n1_ := Aside0.mk (Kd.R_elder' (by (with_reducible repeat (first | apply Kd.R_alloc | apply Kd.R_drewN | apply Kd.R_drew)); exact HO_110001.out) (Kd.R_base ho0) hb)
              have n2_ := Aside0.mk (Kd.R_elder' (by (with_reducible repeat (first | apply Kd.R_alloc | apply Kd.R_drewN | apply Kd.R_drew)); exact HO_110002.out) (Kd.R_base ho0) hb)
              have n3_ := Aside0.mk (Kd.R_lower (Kd.R_new' (Kd.R_new' ho0 (Kd.R_lt (by (with_reducible repeat (first | apply Kd.R_alloc | apply Kd.R_drewN | apply Kd.R_drew)); exact HO_110001.out))) (Kd.R_lt (by (with_reducible repeat (first | apply Kd.R_alloc | apply Kd.R_drewN | apply Kd.R_drew)); exact HO_110002.out))) (below_size (by repeat (first | (with_reducible first | exact HB.out | apply below_alloc | apply pw_below_drewN | apply below_drew1 | refine below_set ?_ GE101.out | refine below_set ?_ GE102.out | refine below_set ?_ GE109.out) | exact HB.out))))
              have n4_ := Aside0.mk (blk_below (g := gb101) (o := .cells #[.slice (some ad110) l0_0.length c0_0, .slice A0_1 l0_1.length c0_1, .slice A0_2 l0_2.length c0_2] 35 (0, 0)) (by (with_reducible repeat (first | refine blk_drewN ?_ _ | refine blk_drew ?_ | refine blk_alloc ?_ _)); exact BK101.out) hb)
              have n5_ := Aside0.mk (blk_below (g := gb102) (o := .cells #[.slice none 0 0, .slice none 0 0, .slice none 0 0] 35 (0, 0)) (by (with_reducible repeat (first | refine blk_drewN ?_ _ | refine blk_drew ?_ | refine blk_alloc ?_ _)); exact BK102.out) hb)
              have n6_ := Aside0.mk (blk_below (g := gb109) (o := .cells #[u110000, .slice Ao14 t103.length co14, .slice Ao13 t106.length co13] 35 (0, 0)) (by (with_reducible repeat (first | refine blk_drewN ?_ _ | refine blk_drew ?_ | refine blk_alloc ?_ _)); exact BK109.out) hb)
              have n7_ := Aside0.mk (below_step (by repeat (first | (with_reducible first | exact HB.out | apply below_alloc | apply pw_below_drewN | apply below_drew1 | refine below_set ?_ GE101.out | refine below_set ?_ GE102.out | refine below_set ?_ GE109.out) | exact HB.out)) hb)
              clear HO_110000
              clear HO_110001
              clear HO_110002
              clear BK101
              clear BK102
              clear BK109
              clear HB
              have HO_110000 := n0_
              have HO_110001 := n1_
              have HO_110002 := n2_
              have HO113 := n3_
              have BK101 := n4_
              have BK102 := n5_
              have BK109 := n6_
              have HB := n7_
              clear n0_ n1_ n2_ n3_ n4_ n5_ n6_ n7_
              (try clear hb)
              (try clear hb2)
              (try clear hk)
              (try clear hi)
              (try clear ho0)
              obtain ⟨Ao29, co29, eo29⟩ := Kd.R_slice HO113.out
              (first | subst eo29 | (injection eo29 with f1_ f2_ f3_; have f4_ := f1_.symm; have f5_ := f3_.symm; clear f1_ f2_ f3_; subst f4_; subst f5_))
              refine hK.out _ _ ⟨(blk_cell BK109.out 0).trans rfl, (blk_cell BK109.out 1).trans rfl, (blk_cell BK109.out 2).trans rfl⟩ (fun hHeld => ?_)
              clear hK K
              refine norm_ (a' := ?_) ?_ ?_
              rotate_left
              · show Act.put _ (some 23) _ = _
                simp only [Act.put, List.setIfInBounds_toArray, List.set_cons_zero, List.set_cons_succ, i64_w, i32_w]
                rfl
              refine one_ (i := 4) (N := some 24) #[true, true, true, true, true, false, false, false] rfl rfl (one_of HT_.out (by kernel_rfl)) (by decide) (fun K hK => ?_)
              refine value_ (w1 := ?_) (v := ?_) (by rfl) rfl ?_ ?_
              rotate_left 2
              · go_simp
                constructor
                · rfl
                · rfl
              refine hK.out _ _ ⟨(blk_cell (blk_alloc BK109.out _) 0).trans rfl, (blk_cell (blk_alloc BK109.out _) 1).trans rfl, (blk_cell (blk_alloc BK109.out _) 2).trans rfl⟩ (fun hHeld => ?_)
              clear hK K
              refine norm_ (a' := ?_) ?_ ?_
              rotate_left
              · show Act.put _ (some 24) _ = _
                simp only [Act.put, List.setIfInBounds_toArray, List.set_cons_zero, List.set_cons_succ, i64_w, i32_w]
                rfl
              refine one_ (i := 5) (N := some 25) #[true, true, true, true, true, true, false, false] rfl rfl (one_of HT_.out (by kernel_rfl)) (by decide) (fun K hK => ?_)
              refine Kd.S_append_step (Kd.slice 3 (Kd.int .i64)) (w0 := w) w.heap.size (by rfl) (.tmp 21) (.tmp 24) 32 33 (.slice none 0 0) 24 rfl Try.underlying32 info33 rfl (by decide) (by omega) u110000 x110000_1 t111 [.slice Ao29 t111.length co29] (fun k_ => some k_ ≠ (.slice Ao14 t103.length co14 : Value).ownBlock ∧ some k_ ≠ (.slice Ao13 t106.length co13 : Value).ownBlock) (fun k_ => some k_ = (.slice Ao29 t111.length co29 : Value).ownBlock) rfl rfl ?aP (fun k_ hk_ => ((Kd.R_mono (ok' := fun k_ => ((fun k_ => some k_ ≠ (.slice Ao14 t103.length co14 : Value).ownBlock ∧ some k_ ≠ (.slice Ao13 t106.length co13 : Value).ownBlock)) k_ ∧ some k_ ≠ (u110000 : Value).ownBlock) (Kd.R_apart' (HO113.out) (Kd.S_typed HO_110000.out) (by decide)) (fun k_ hk => ⟨⟨hk.1.1.2, hk.1.2⟩, hk.2⟩))).1 k_ hk_.symm) ?aF ?aO ?aB ?aS ?aL ?_
              (case aP => exact Kd.M_row (Kd.R_mono (Kd.R_tight rfl (Kd.R_mono (ok' := fun k_ => ((fun k_ => some k_ ≠ (.slice Ao14 t103.length co14 : Value).ownBlock ∧ some k_ ≠ (.slice Ao13 t106.length co13 : Value).ownBlock)) k_ ∧ some k_ ≠ (u110000 : Value).ownBlock) (Kd.R_apart' (HO113.out) (Kd.S_typed HO_110000.out) (by decide)) (fun k_ hk => ⟨⟨hk.1.1.2, hk.1.2⟩, hk.2⟩))) (fun _ h_ => h_)))
              (case aB => exact (by repeat (first | (with_reducible first | exact HB.out | apply below_alloc | apply pw_below_drewN | apply below_drew1 | refine below_set ?_ GE101.out | refine below_set ?_ GE102.out | refine below_set ?_ GE109.out) | exact HB.out)))
              (case aF => exact (fun k_ hk => ⟨Kd.fresh' (Kd.R_lt (by (with_reducible repeat (first | apply Kd.R_alloc | apply Kd.R_drewN | apply Kd.R_drew)); exact HO_110001.out)) k_ hk, Kd.fresh' (Kd.R_lt (by (with_reducible repeat (first | apply Kd.R_alloc | apply Kd.R_drewN | apply Kd.R_drew)); exact HO_110002.out)) k_ hk⟩))
              (case aO => exact (by (with_reducible repeat (first | apply Kd.S_alloc | apply Kd.S_drewN | apply Kd.S_drew)); exact Kd.S_mono HO_110000.out (fun k_ hk => ⟨⟨hk.1.1, hk.1.2⟩, fun e_ => hk.2 e_⟩)))
              (case aS => exact (below_size (by repeat (first | (with_reducible first | exact HB.out | apply below_alloc | apply pw_below_drewN | apply below_drew1 | refine below_set ?_ GE101.out | refine below_set ?_ GE102.out | refine below_set ?_ GE109.out) | exact HB.out))))
              (case aL => have := LMc25.out; omega)
              intro v115 w28 ho hb hg hat
              rw [← Ny114.out] at ho
              have n0_ := Aside0.mk (Kd.R_over' (by (with_reducible repeat (first | apply Kd.R_alloc | apply Kd.R_drewN | apply Kd.R_drew)); exact HO_110001.out) (Kd.S_typed (by (with_reducible repeat (first | apply Kd.S_alloc | apply Kd.S_drewN | apply Kd.S_drew)); exact HO_110000.out)) (by decide) hg)
              have n1_ := Aside0.mk (Kd.R_over' (by (with_reducible repeat (first | apply Kd.R_alloc | apply Kd.R_drewN | apply Kd.R_drew)); exact HO_110002.out) (Kd.S_typed (by (with_reducible repeat (first | apply Kd.S_alloc | apply Kd.S_drewN | apply Kd.S_drew)); exact HO_110000.out)) (by decide) hg)
              have n2_ := Aside0.mk (blk_grown (g := gb101) (o := .cells #[.slice (some ad110) l0_0.length c0_0, .slice A0_1 l0_1.length c0_1, .slice A0_2 l0_2.length c0_2] 35 (0, 0)) (by (with_reducible repeat (first | refine blk_drewN ?_ _ | refine blk_drew ?_ | refine blk_alloc ?_ _)); exact BK101.out) hg (Kd.S_ne HO_110000.out BK101.out (by decide)))
              have n3_ := Aside0.mk (blk_grown (g := gb102) (o := .cells #[.slice none 0 0, .slice none 0 0, .slice none 0 0] 35 (0, 0)) (by (with_reducible repeat (first | refine blk_drewN ?_ _ | refine blk_drew ?_ | refine blk_alloc ?_ _)); exact BK102.out) hg (Kd.S_ne HO_110000.out BK102.out (by decide)))
              have n4_ := Aside0.mk (blk_grown (g := gb109) (o := .cells #[u110000, .slice Ao14 t103.length co14, .slice Ao13 t106.length co13] 35 (0, 0)) (by (with_reducible repeat (first | refine blk_drewN ?_ _ | refine blk_drew ?_ | refine blk_alloc ?_ _)); exact BK109.out) hg (Kd.S_ne HO_110000.out BK109.out (by decide)))
              have n5_ := Aside0.mk (hb)
              have n6_ := Aside0.mk (ho)
              clear HO_110001
              clear HO_110002
              clear BK101
              clear BK102
              clear BK109
              clear HB
              clear HO_110000
              clear HO113
              have HO_110001 := n0_
              have HO_110002 := n1_
              have BK101 := n2_
              have BK102 := n3_
              have BK109 := n4_
              have HB := n5_
              have HO116 := n6_
              clear n0_ n1_ n2_ n3_ n4_ n5_ n6_
              clear ho hb hg hat
              obtain ⟨Ao30, co30, eo30⟩ := Kd.S_slice HO116.out
              (first | subst eo30 | (injection eo30 with f1_ f2_ f3_; have f4_ := f1_.symm; have f5_ := f3_.symm; clear f1_ f2_ f3_; subst f4_; subst f5_))
              refine hK.out _ _ ⟨(blk_cell BK109.out 0).trans rfl, (blk_cell BK109.out 1).trans rfl, (blk_cell BK109.out 2).trans rfl⟩ (fun hHeld => ?_)
              clear hK K
              refine norm_ (a' := ?_) ?_ ?_
              rotate_left
              · show Act.put _ (some 25) _ = _
                simp only [Act.put, List.setIfInBounds_toArray, List.set_cons_zero, List.set_cons_succ, i64_w, i32_w]
                rfl
              refine pure_ (i := 6) (N := some 26) (v := ?_) (a' := ?_) #[true, true, true, true, true, true, true, false] rfl rfl (any_of HT_.out (by kernel_rfl)) (fun _ _ _ h => h) (Or.inl ⟨by rfl, ?_⟩) ?_ ?_
              rotate_left
              · intro w'
                go_simp
                with_reducible rfl
              rotate_left
              · simp only [Act.put, List.setIfInBounds_toArray, List.set_cons_zero, List.set_cons_succ, i64_w, i32_w]
                rfl
              refine last_ (i := 7) (N := none) #[true, true, true, true, true, true, true, true] rfl rfl (one_of HT_.out (by kernel_rfl)) (by decide) (fun K hK => ?_)
              have hs31 : w28.cell? ⟨gb109, 0, none⟩ = some (u110000) := (blk_cell BK109.out 0).trans rfl
              have hfs31 := blk_frozen BK109.out 0
              have hns31_0 := NB101_109.out
              have hns31_1 := NB102_109.out
              have hms31_0 := NB109_101.out
              have hms31_1 := NB109_102.out
              refine skip_ (w1 := ?_) (by rfl) rfl ?_ ?_
              rotate_left
              · go_simp
                rfl
              refine hK.out _ _ ?_
              clear hK K
              refine done_ (done_of HT_.out (by kernel_rfl)) ?_
              try go_wp2
              go_roundg k1
              case measure => have := HK1.out; omega
              case rel => exact ⟨(wrap64 (x16_1 + 1)), (y114), (.slice Ao30 y114.length co30), (by first | rfl | (simp; done) | (simp [*]; done)), H', ⟨by have := HK1.out; omega⟩, ⟨by (with_reducible repeat (first | apply Kd.S_alloc | apply Kd.S_drewN | apply Kd.S_drew)); exact Kd.S_mono (Kd.S_far (p := ⟨gb109, 0, none⟩) (Kd.S_types HO116.out BK109.out (by decide)) (fun _ hk => hk.2) (.slice Ao30 y114.length co30)) (fun _ hk => ⟨hk.1.1, hk.1.2⟩)⟩, ⟨by (with_reducible repeat (first | apply Kd.R_alloc | apply Kd.R_drewN | apply Kd.R_drew)); exact Kd.R_mono (Kd.R_far (p := ⟨gb109, 0, none⟩) (Kd.R_types HO_110001.out BK109.out (by decide)) (fun _ hk => hk.2) (.slice Ao30 y114.length co30)) (fun _ hk => hk.1.1)⟩, ⟨by (with_reducible repeat (first | apply Kd.R_alloc | apply Kd.R_drewN | apply Kd.R_drew)); exact Kd.R_mono (Kd.R_far (p := ⟨gb109, 0, none⟩) (Kd.R_types HO_110002.out BK109.out (by decide)) (fun _ hk => hk.2) (.slice Ao30 y114.length co30)) (fun _ hk => hk.1.1)⟩, ⟨by (with_reducible repeat (first | refine blk_drewN ?_ _ | refine blk_drew ?_ | refine blk_alloc ?_ _)); refine blk_far ?_ NB101_109.out _; (with_reducible repeat (first | refine blk_drewN ?_ _ | refine blk_drew ?_ | refine blk_alloc ?_ _)); exact BK101.out⟩, ⟨by (with_reducible repeat (first | refine blk_drewN ?_ _ | refine blk_drew ?_ | refine blk_alloc ?_ _)); refine blk_far ?_ NB102_109.out _; (with_reducible repeat (first | refine blk_drewN ?_ _ | refine blk_drew ?_ | refine blk_alloc ?_ _)); exact BK102.out⟩, ⟨by (with_reducible repeat (first | refine blk_drewN ?_ _ | refine blk_drew ?_ | refine blk_alloc ?_ _)); refine blk_put (cs := #[u110000, .slice Ao14 t103.length co14, .slice Ao13 t106.length co13]) ?_ 0 _ rfl; (with_reducible repeat (first | refine blk_drewN ?_ _ | refine blk_drew ?_ | refine blk_alloc ?_ _)); exact BK109.out⟩, ⟨by repeat (first | (with_reducible first | exact HB.out | apply below_alloc | apply pw_below_drewN | apply below_drew1 | refine below_set ?_ GE101.out | refine below_set ?_ GE102.out | refine below_set ?_ GE109.out) | exact HB.out)⟩⟩
            · rw [if_neg c25] at H
              exact absurd H (by simp)
          · rw [if_neg c23] at H
            exact absurd H (by simp)
        · rw [if_neg c22] at H
          exact absurd H (by simp)
      · rw [if_neg c21] at H
        have c21b0 : decide (x16_1 < (l0_0.length : Int)) = false := decide_eq_false c21
        clear c21
        simp only [Option.some.injEq, Prod.mk.injEq] at H
        obtain ⟨rfl, rfl, rfl⟩ := H
        have hnb32 := NB109_101.out
        have hnc32 := NB101_109.out
        have hnb33 := NB109_102.out
        have hnc33 := NB102_109.out
        have hcz34_0 : wr.cell? ⟨gb109, 0, none⟩ = some (u110000) := (blk_cell BK109.out 0).trans rfl
        have hcz34_1 : wr.cell? ⟨gb109, 1, none⟩ = some (.slice Ao14 t103.length co14) := (blk_cell BK109.out 1).trans rfl
        have hcz34_2 : wr.cell? ⟨gb109, 2, none⟩ = some (.slice Ao13 t106.length co13) := (blk_cell BK109.out 2).trans rfl
        have hfz34_0 := blk_frozen BK109.out 0
        have hfz34_1 := blk_frozen BK109.out 1
        have hfz34_2 := blk_frozen BK109.out 2
        obtain ⟨Ao35, co35, eo35⟩ := Kd.S_slice HO_110000.out
        subst eo35
        have hnb36 := NB102_101.out
        have hnc36 := NB101_102.out
        have hcz37_0 : wr.cell? ⟨gb102, 0, none⟩ = some (.slice none 0 0) := (blk_cell BK102.out 0).trans rfl
        have hcz37_1 : wr.cell? ⟨gb102, 1, none⟩ = some (.slice none 0 0) := (blk_cell BK102.out 1).trans rfl
        have hcz37_2 : wr.cell? ⟨gb102, 2, none⟩ = some (.slice none 0 0) := (blk_cell BK102.out 2).trans rfl
        have hfz37_0 := blk_frozen BK102.out 0
        have hfz37_1 := blk_frozen BK102.out 1
        have hfz37_2 := blk_frozen BK102.out 2
        go_wp2
        refine bodyPost_ret (results_cell_row rfl _ _ gb102 35 #[.slice Ao35 x110000_1.length co35, .slice Ao14 t103.length co14, .slice Ao13 t106.length co13] (0, 0) _ rfl (by (with_reducible repeat (first | refine blk_drewN ?_ _ | refine blk_drew ?_ | refine blk_alloc ?_ _)); refine blk_put (cs := #[.slice Ao35 x110000_1.length co35, .slice Ao14 t103.length co14, .slice none 0 0]) ?_ 2 _ rfl; (with_reducible repeat (first | refine blk_drewN ?_ _ | refine blk_drew ?_ | refine blk_alloc ?_ _)); refine blk_put (cs := #[.slice Ao35 x110000_1.length co35, .slice none 0 0, .slice none 0 0]) ?_ 1 _ rfl; (with_reducible repeat (first | refine blk_drewN ?_ _ | refine blk_drew ?_ | refine blk_alloc ?_ _)); refine blk_put (cs := #[.slice none 0 0, .slice none 0 0, .slice none 0 0]) ?_ 0 _ rfl; (with_reducible repeat (first | refine blk_drewN ?_ _ | refine blk_drew ?_ | refine blk_alloc ?_ _)); exact BK102.out) Try.underlying35 rfl (by kernel_rfl)) rfl ?_
        exact ⟨_, _, _, by first | rfl | (simp [errW_none, errW_some] <;> rfl) | (simp [*, errW_none, errW_some] <;> rfl), by (with_reducible repeat (first | apply Kd.S_alloc | apply Kd.S_drewN | apply Kd.S_drew)); exact Kd.S_mono (Kd.S_far (p := ⟨gb102, 2, none⟩) (Kd.S_far (p := ⟨gb102, 1, none⟩) (Kd.S_far (p := ⟨gb102, 0, none⟩) (Kd.S_types HO_110000.out BK102.out (by decide)) (fun _ hk => hk.2) (.slice Ao35 x110000_1.length co35)) (fun _ hk => hk.2) (.slice Ao14 t103.length co14)) (fun _ hk => hk.2) (.slice Ao13 t106.length co13)) (fun _ hk => ⟨hk.1.1, hk.1.2⟩), by (with_reducible repeat (first | apply Kd.R_alloc | apply Kd.R_drewN | apply Kd.R_drew)); exact Kd.R_mono (Kd.R_far (p := ⟨gb102, 2, none⟩) (Kd.R_far (p := ⟨gb102, 1, none⟩) (Kd.R_far (p := ⟨gb102, 0, none⟩) (Kd.R_types HO_110001.out BK102.out (by decide)) (fun _ hk => hk.2) (.slice Ao35 x110000_1.length co35)) (fun _ hk => hk.2) (.slice Ao14 t103.length co14)) (fun _ hk => hk.2) (.slice Ao13 t106.length co13)) (fun _ hk => hk.1), by (with_reducible repeat (first | apply Kd.R_alloc | apply Kd.R_drewN | apply Kd.R_drew)); exact Kd.R_mono (Kd.R_far (p := ⟨gb102, 2, none⟩) (Kd.R_far (p := ⟨gb102, 1, none⟩) (Kd.R_far (p := ⟨gb102, 0, none⟩) (Kd.R_types HO_110002.out BK102.out (by decide)) (fun _ hk => hk.2) (.slice Ao35 x110000_1.length co35)) (fun _ hk => hk.2) (.slice Ao14 t103.length co14)) (fun _ hk => hk.2) (.slice Ao13 t106.length co13)) (fun _ hk => hk.1), by repeat (first | (with_reducible first | exact HB.out | apply below_alloc | apply pw_below_drewN | apply below_drew1 | refine below_set ?_ GE101.out | refine below_set ?_ GE102.out | refine below_set ?_ GE109.out) | exact HB.out)⟩
end Go.Proofs.Ytgcdeablfoomhaa.PAll
end
section
set_option linter.unusedVariables false
set_option linter.unusedSimpArgs false
namespace Go.Proofs.Ytgcdeablfoomhaa.PAll
open Go.RowKit Go.Proofs.YtgcdeablfoomhaaW.PrintWords Go.Proofs.YtgcdeablfoomhaaW.PrintLast Go.Proofs.YtgcdeablfoomhaaW.PrintMore
def cmpR : List Int → List Int → Int
  | x :: xs, y :: ys => if x = y then cmpR xs ys else rankO x - rankO y
  | _, _ => 0
def cmpL (a b : List Int) : Int := if a.length = b.length then cmpR a b else (a.length : Int) - (b.length : Int)
def lessLs : List (List Int) → List (List Int) → Bool
  | l :: ls, m :: ms => if cmpL l m = 0 then lessLs ls ms else decide (cmpL l m < 0)
  | _, _ => false
theorem cmpR_self : ∀ (a : List Int), cmpR a a = 0
  | [] => rfl
  | x :: xs => by unfold cmpR; rw [if_pos rfl]; exact cmpR_self xs
theorem cmpL_self (a : List Int) : cmpL a a = 0 := by unfold cmpL; rw [if_pos rfl]; exact cmpR_self a
theorem lessLs_self : ∀ (L : List (List Int)), lessLs L L = false
  | [] => rfl
  | l :: ls => by unfold lessLs; rw [if_pos (cmpL_self l)]; exact lessLs_self ls
end Go.Proofs.Ytgcdeablfoomhaa.PAll
end
section
set_option linter.unusedVariables false
set_option linter.unusedSimpArgs false
namespace Go.Proofs.Ytgcdeablfoomhaa.PAll
open Go.RowKit Go.Proofs.YtgcdeablfoomhaaW.PrintWords Go.Proofs.YtgcdeablfoomhaaW.PrintLast Go.Proofs.YtgcdeablfoomhaaW.PrintMore
theorem rankO_nn (x : Int) : 0 ≤ rankO x := by unfold rankO; split <;> omega
theorem rankO_unrank {r : Int} (h : 0 ≤ r) : rankO (unrank r) = r := by
  unfold rankO unrank
  by_cases e : r % 2 = 1
  · rw [if_pos e, if_pos (by omega)]; omega
  · rw [if_neg e, if_neg (by omega)]; omega
theorem rankO_le {x b : Int} (h : 0 ≤ b) : rankO x ≤ 2 * b ↔ -b ≤ x ∧ x ≤ b := by
  unfold rankO; split <;> omega
/-- Weights, without a bound. -/
def wlP : List Int → Int
  | [] => 0
  | x :: r => rankO x + 1 + wlP r
def wtP : List (List Int) → Int
  | [] => 0
  | l :: r => wlP l + wtP r
theorem mem_irange {a b x : Int} : x ∈ irange a b ↔ a ≤ x ∧ x ≤ b := by
  unfold irange
  rw [List.mem_map]
  constructor
  · rintro ⟨j, hj, rfl⟩
    rw [List.mem_range] at hj; omega
  · rintro ⟨h1, h2⟩
    exact ⟨(x - a).toNat, by rw [List.mem_range]; omega, by omega⟩
theorem irange_lt (a b : Int) : (irange a b).Pairwise (· < ·) := by
  unfold irange
  rw [List.pairwise_map]
  exact List.pairwise_lt_range.imp fun h => by omega
/-- The lists that a list's bounds admit. -/
def okL (rk : Int) (l : List Int) : Prop := ∀ x ∈ l, rankO x ≤ rk
def inS (rk : Int) : List S62 → List (List Int) → Prop
  | [], q => q = []
  | s :: r, q => ∃ l q', q = l :: q' ∧ s.f0 ≤ (l.length : Int) ∧ (l.length : Int) ≤ s.f1 ∧ okL rk l ∧ inS rk r q'
theorem wlP_ok {rk : Int} (h : 0 ≤ rk) : ∀ {l : List Int}, okL rk l → (l.length : Int) ≤ wlP l ∧ wlP l ≤ (l.length : Int) * (rk + 1)
  | [], _ => ⟨by simp [wlP], by simp [wlP]⟩
  | x :: r, hl => by
    have ih := wlP_ok h (l := r) fun y hy => hl y (List.mem_cons_of_mem _ hy)
    have h1 := hl x List.mem_cons_self
    have h2 := rankO_nn x
    rw [wlP, List.length_cons]
    have e : ((r.length + 1 : Nat) : Int) * (rk + 1) = (r.length : Int) * (rk + 1) + (rk + 1) := by
      rw [show ((r.length + 1 : Nat) : Int) = (r.length : Int) + 1 by omega, Int.add_mul]; omega
    rw [e]; omega
theorem wtP_ok {rk : Int} (h : 0 ≤ rk) : ∀ {sl : List S62} {q : List (List Int)}, (∀ s ∈ sl, 0 ≤ s.f1) → inS rk sl q → lowOf sl ≤ wtP q ∧ wtP q ≤ highOf rk sl
  | [], q, _, hq => by rw [inS] at hq; subst hq; exact ⟨by simp [lowOf, wtP], by simp [highOf, wtP]⟩
  | s :: r, q, hs, hq => by
    rw [inS] at hq
    obtain ⟨l, q', rfl, h1, h2, h3, h4⟩ := hq
    have ih := wtP_ok h (fun x hx => hs x (List.mem_cons_of_mem _ hx)) h4
    have hl := wlP_ok h h3
    have : (l.length : Int) * (rk + 1) ≤ s.f1 * (rk + 1) := Int.mul_le_mul_of_nonneg_right h2 (by omega)
    rw [lowOf, highOf, wtP]; omega
theorem mem_elemO {rk lo hi : Int} (hrk : 0 ≤ rk) {K : Int → List (List (List Int))} (hK : ∀ w q, q ∈ K w → lo ≤ w ∧ w ≤ hi) : ∀ (n : Nat) (w : Int) (l : List Int) (q : List (List Int)),
    (l, q) ∈ elemO rk lo hi K n w ↔ l.length = n ∧ okL rk l ∧ q ∈ K (w - wlP l)
  | 0, w, l, q => by
    unfold elemO
    constructor
    · intro h
      split at h
      · cases h
      · obtain ⟨q', hq, e⟩ := List.mem_map.1 h
        injection e with e1 e2
        subst e1 e2
        exact ⟨rfl, fun x hx => (by cases hx), by simpa [wlP] using hq⟩
    · rintro ⟨h1, h2, h3⟩
      have : l = [] := List.length_eq_zero_iff.1 h1
      subst this
      simp only [wlP, Int.sub_zero] at h3
      have := hK _ _ h3
      rw [if_neg (by omega)]
      exact List.mem_map.2 ⟨q, h3, rfl⟩
  | n + 1, w, l, q => by
    unfold elemO
    rw [List.mem_flatMap]
    constructor
    · rintro ⟨r, hr, h⟩
      obtain ⟨⟨l', q'⟩, hq, e⟩ := List.mem_map.1 h
      injection e with e1 e2
      subst e1 e2
      obtain ⟨h1, h2, h3⟩ := (mem_elemO hrk hK n _ l' q').1 hq
      rw [mem_irange] at hr
      have hr0 : 0 ≤ r := by omega
      refine ⟨by rw [List.length_cons, h1], ?_, ?_⟩
      · intro x hx
        rcases List.mem_cons.1 hx with rfl | hx
        · rw [rankO_unrank hr0]; omega
        · exact h2 x hx
      · rw [wlP, rankO_unrank hr0]
        rwa [show w - (r + 1 + wlP l') = w - 1 - r - wlP l' by omega]
    · rintro ⟨h1, h2, h3⟩
      cases l with
      | nil => simp at h1
      | cons x l =>
        have h2' : okL rk l := fun y hy => h2 y (List.mem_cons_of_mem _ hy)
        have hx := h2 x List.mem_cons_self
        have hx0 := rankO_nn x
        have hl := wlP_ok hrk h2'
        have h1' : l.length = n := by simpa using h1
        rw [h1'] at hl
        rw [wlP] at h3
        have hk := hK _ _ h3
        refine ⟨rankO x, ?_, ?_⟩
        · rw [mem_irange]; omega
        · refine List.mem_map.2 ⟨(l, q), (mem_elemO hrk hK n _ l q).2 ⟨h1', h2', ?_⟩, ?_⟩
          · rwa [show w - 1 - rankO x - wlP l = w - (rankO x + 1 + wlP l) by omega]
          · rw [unrank_rankO]
theorem elemO_congr {rk lo hi : Int} {K K' : Int → List (List (List Int))} (hK : ∀ w, lo ≤ w → w ≤ hi → K w = K' w) : ∀ (n : Nat) (w : Int), elemO rk lo hi K n w = elemO rk lo hi K' n w
  | 0, w => by
    unfold elemO
    split
    · rfl
    · rw [hK w (by omega) (by omega)]
  | n + 1, w => by
    unfold elemO
    have e : (fun r : Int => (elemO rk lo hi K n (w - 1 - r)).map fun q => (unrank r :: q.1, q.2)) = (fun r : Int => (elemO rk lo hi K' n (w - 1 - r)).map fun q => (unrank r :: q.1, q.2)) := by
      funext r
      rw [elemO_congr hK n (w - 1 - r)]
    rw [e]
/-- The lists of one weight, where it lies within the bounds. -/
def slotK (rk : Int) (sl : List S62) (w : Int) : List (List (List Int)) := if lowOf sl ≤ w ∧ w ≤ highOf rk sl then slotO rk sl w else []
theorem slotK_in {rk : Int} {sl : List S62} {w : Int} {q : List (List Int)} (h : q ∈ slotK rk sl w) : lowOf sl ≤ w ∧ w ≤ highOf rk sl := by
  unfold slotK at h
  split at h
  · assumption
  · cases h
theorem slotO_cons (rk : Int) (s : S62) (r : List S62) (w : Int) : slotO rk (s :: r) w = (irange s.f0 s.f1).flatMap fun m => (elemO rk (lowOf r) (highOf rk r) (slotK rk r) m.toNat w).map fun q => q.1 :: q.2 := by
  unfold slotO
  have e : (fun m : Int => (elemO rk (lowOf r) (highOf rk r) (slotO rk r) m.toNat w).map fun q => q.1 :: q.2) = (fun m : Int => (elemO rk (lowOf r) (highOf rk r) (slotK rk r) m.toNat w).map fun q => q.1 :: q.2) := by
    funext m
    rw [elemO_congr (K' := slotK rk r) fun w h1 h2 => by unfold slotK; rw [if_pos ⟨h1, h2⟩]]
  rw [e]
theorem mem_slotK {rk : Int} (hrk : 0 ≤ rk) : ∀ (sl : List S62), (∀ s ∈ sl, 0 ≤ s.f0 ∧ 0 ≤ s.f1) → ∀ (w : Int) (q : List (List Int)), q ∈ slotK rk sl w ↔ inS rk sl q ∧ wtP q = w
  | [], _, w, q => by
    unfold slotK slotO inS lowOf highOf
    constructor
    · intro h
      split at h
      · rw [List.mem_singleton] at h
        subst h
        exact ⟨rfl, by rw [wtP]; omega⟩
      · cases h
    · rintro ⟨rfl, h⟩
      rw [wtP] at h
      rw [if_pos (by omega)]; exact List.mem_singleton.2 rfl
  | s :: r, hs, w, q => by
    have hs' : ∀ s ∈ r, 0 ≤ s.f0 ∧ 0 ≤ s.f1 := fun x hx => hs x (List.mem_cons_of_mem _ hx)
    have hs0 := hs s List.mem_cons_self
    have ih := mem_slotK hrk r hs'
    have me := mem_elemO (lo := lowOf r) (hi := highOf rk r) (K := slotK rk r) hrk (fun w q h => slotK_in h)
    have fwd : inS rk (s :: r) q ∧ wtP q = w → lowOf (s :: r) ≤ w ∧ w ≤ highOf rk (s :: r) := fun ⟨h1, h2⟩ => by
      have := wtP_ok hrk (fun x hx => (hs x hx).2) h1
      rwa [h2] at this
    have core : q ∈ slotO rk (s :: r) w ↔ inS rk (s :: r) q ∧ wtP q = w := by
      rw [slotO_cons, List.mem_flatMap]
      constructor
      · rintro ⟨m, hm, h⟩
        obtain ⟨⟨l, q'⟩, hq, rfl⟩ := List.mem_map.1 h
        obtain ⟨h1, h2, h3⟩ := (me _ _ _ _).1 hq
        obtain ⟨h4, h5⟩ := (ih _ _).1 h3
        rw [mem_irange] at hm
        refine ⟨⟨l, q', rfl, by omega, by omega, h2, h4⟩, ?_⟩
        show wlP l + wtP q' = w
        omega
      · rintro ⟨⟨l, q', rfl, h1, h2, h3, h4⟩, h5⟩
        have h6 : wlP l + wtP q' = w := h5
        refine ⟨(l.length : Int), mem_irange.2 ⟨h1, h2⟩, List.mem_map.2 ⟨(l, q'), (me _ _ _ _).2 ⟨by omega, h3, (ih _ _).2 ⟨h4, by omega⟩⟩, rfl⟩⟩
    unfold slotK
    split
    · exact core
    · constructor
      · intro h; cases h
      · intro h; exact absurd (fwd h) (by assumption)
theorem elemO_sorted {rk lo hi : Int} {K : Int → List (List (List Int))} (hK : ∀ w, (K w).Pairwise fun a b => lessLs a b = true) : ∀ (n : Nat) (w : Int),
    (elemO rk lo hi K n w).Pairwise (fun a b => lessLs (a.1 :: a.2) (b.1 :: b.2) = true) ∧ ∀ a ∈ elemO rk lo hi K n w, a.1.length = n
  | 0, w => by
    unfold elemO
    split
    · exact ⟨List.Pairwise.nil, fun a h => by cases h⟩
    · refine ⟨?_, fun a h => ?_⟩
      · rw [List.pairwise_map]
        exact (hK w).imp fun h => by
          unfold lessLs
          rw [if_pos (cmpL_self _)]; exact h
      · obtain ⟨_, _, rfl⟩ := List.mem_map.1 h
        rfl
  | n + 1, w => by
    unfold elemO
    have hlen : ∀ a ∈ ((irange (max 0 (w - 1 - ((n : Int) * (rk + 1) + hi))) (min rk (w - 1 - ((n : Int) + lo)))).flatMap fun r => (elemO rk lo hi K n (w - 1 - r)).map fun q => (unrank r :: q.1, q.2)), a.1.length = n + 1 := by
      intro a h
      obtain ⟨r, _, h⟩ := List.mem_flatMap.1 h
      obtain ⟨q, hq, rfl⟩ := List.mem_map.1 h
      show (unrank r :: q.1).length = n + 1
      rw [List.length_cons, (elemO_sorted hK n _).2 q hq]
    refine ⟨?_, hlen⟩
    rw [List.pairwise_flatMap]
    refine ⟨fun r hr => ?_, ?_⟩
    · rw [List.pairwise_map]
      have ih := elemO_sorted (rk := rk) (lo := lo) (hi := hi) hK n (w - 1 - r)
      refine List.Pairwise.imp_of_mem ?_ ih.1
      intro a b ha hb h
      have e1 := ih.2 a ha
      have e2 := ih.2 b hb
      unfold lessLs at h ⊢
      have e : cmpL (unrank r :: a.1) (unrank r :: b.1) = cmpL a.1 b.1 := by
        unfold cmpL
        rw [if_pos (by simp [e1, e2]), if_pos (e1.trans e2.symm), cmpR, if_pos rfl]
      rw [e]; exact h
    · refine List.Pairwise.imp_of_mem ?_ (irange_lt _ _)
      intro r r' hr hr' hlt a ha b hb
      rw [mem_irange] at hr hr'
      obtain ⟨x, hx, rfl⟩ := List.mem_map.1 ha
      obtain ⟨y, hy, rfl⟩ := List.mem_map.1 hb
      have e1 := (elemO_sorted hK n _).2 x hx
      have e2 := (elemO_sorted hK n _).2 y hy
      have h1 := rankO_unrank (r := r) (by omega)
      have h2 := rankO_unrank (r := r') (by omega)
      have e : cmpL (unrank r :: x.1) (unrank r' :: y.1) = r - r' := by
        unfold cmpL
        rw [if_pos (by simp [e1, e2]), cmpR, if_neg (fun e => by rw [e] at h1; omega), h1, h2]
      unfold lessLs
      rw [e, if_neg (by omega)]
      exact decide_eq_true (by omega)
theorem slotK_sorted {rk : Int} : ∀ (sl : List S62), (∀ s ∈ sl, 0 ≤ s.f0 ∧ 0 ≤ s.f1) → ∀ (w : Int), (slotK rk sl w).Pairwise fun a b => lessLs a b = true
  | [], _, w => by
    unfold slotK
    split
    · exact List.pairwise_singleton _ _
    · exact List.Pairwise.nil
  | s :: r, hs, w => by
    have ih := slotK_sorted (rk := rk) r (fun x hx => hs x (List.mem_cons_of_mem _ hx))
    have hs0 := hs s List.mem_cons_self
    unfold slotK
    split
    · rw [slotO_cons, List.pairwise_flatMap]
      refine ⟨fun m _ => ?_, ?_⟩
      · rw [List.pairwise_map]
        exact (elemO_sorted ih _ _).1
      · refine List.Pairwise.imp_of_mem ?_ (irange_lt _ _)
        intro m m' hm hm' hlt a ha b hb
        rw [mem_irange] at hm hm'
        obtain ⟨x, hx, rfl⟩ := List.mem_map.1 ha
        obtain ⟨y, hy, rfl⟩ := List.mem_map.1 hb
        have e1 := (elemO_sorted ih _ _).2 x hx
        have e2 := (elemO_sorted ih _ _).2 y hy
        unfold lessLs cmpL
        rw [if_neg (by omega), if_neg (by omega)]
        exact decide_eq_true (by omega)
    · exact List.Pairwise.nil
theorem allO_eq {vars : List S48} {bv bl bi : Int} (h : validB vars bv bl bi = true) :
    allO vars bv bl bi = (irange (lowOf (slotsOf vars bl bi)) (highOf (2 * bv) (slotsOf vars bl bi))).flatMap (slotK (2 * bv) (slotsOf vars bl bi)) := by
  unfold allO
  rw [if_pos h, List.flatMap_def, List.flatMap_def]
  congr 1
  refine List.map_congr_left fun w hw => ?_
  rw [mem_irange] at hw
  unfold slotK
  rw [if_pos hw]
theorem mem_allO {vars : List S48} {bv bl bi : Int} (h : validB vars bv bl bi = true) {q : List (List Int)} : q ∈ allO vars bv bl bi ↔ inS (2 * bv) (slotsOf vars bl bi) q := by
  have hv : 0 ≤ bv := by
    unfold validB okB at h
    simp only [Bool.and_eq_true, decide_eq_true_eq] at h
    exact h.1.2.1.1.1
  have hs := slots_ok h
  have hs' : ∀ s ∈ slotsOf vars bl bi, 0 ≤ s.f0 ∧ 0 ≤ s.f1 := fun s hs2 => ⟨(hs s hs2).1, (hs s hs2).2.2.1⟩
  rw [allO_eq h, List.mem_flatMap]
  constructor
  · rintro ⟨w, _, hq⟩
    exact ((mem_slotK (by omega) _ hs' _ _).1 hq).1
  · intro hq
    exact ⟨wtP q, mem_irange.2 (wtP_ok (by omega) (fun s h => (hs' s h).2) hq), (mem_slotK (by omega) _ hs' _ _).2 ⟨hq, rfl⟩⟩
/-- The strict order of what is handed over. -/
def ltP (a b : List (List Int)) : Prop := wtP a < wtP b ∨ wtP a = wtP b ∧ lessLs a b = true
theorem allO_sorted {vars : List S48} {bv bl bi : Int} (h : validB vars bv bl bi = true) : (allO vars bv bl bi).Pairwise ltP := by
  have hv : 0 ≤ bv := by
    unfold validB okB at h
    simp only [Bool.and_eq_true, decide_eq_true_eq] at h
    exact h.1.2.1.1.1
  have hs := slots_ok h
  have hs' : ∀ s ∈ slotsOf vars bl bi, 0 ≤ s.f0 ∧ 0 ≤ s.f1 := fun s hs2 => ⟨(hs s hs2).1, (hs s hs2).2.2.1⟩
  rw [allO_eq h, List.pairwise_flatMap]
  refine ⟨fun w _ => ?_, ?_⟩
  · refine List.Pairwise.imp_of_mem ?_ (slotK_sorted (rk := 2 * bv) (slotsOf vars bl bi) hs' w)
    intro a b ha hb hl
    exact .inr ⟨((mem_slotK (by omega) _ hs' _ _).1 ha).2.trans ((mem_slotK (by omega) _ hs' _ _).1 hb).2.symm, hl⟩
  · refine (irange_lt _ _).imp ?_
    intro w w' hlt a ha b hb
    exact .inl (by rw [((mem_slotK (by omega) _ hs' _ _).1 ha).2, ((mem_slotK (by omega) _ hs' _ _).1 hb).2]; exact hlt)
theorem ltP_irr (a : List (List Int)) : ¬ ltP a a := by
  unfold ltP
  rw [lessLs_self]
  simp
end Go.Proofs.Ytgcdeablfoomhaa.PAll
end
section
namespace Go.Proofs.Ytgcdeablfoomhaa.PAll
open Go.RowKit Go.Proofs.YtgcdeablfoomhaaW.PrintWords Go.Proofs.YtgcdeablfoomhaaW.PrintLast Go.Proofs.YtgcdeablfoomhaaW.PrintMore
attribute [local go_sem] max2_int min2_int max_two min_two max_three min_three max_four min_four   -- for this text's walks alone
set_option linter.unusedVariables false
set_option linter.unusedSimpArgs false
def backstepref12_power.l0 : Nat → Int → Int → Int → Int → Option (Int)
  | 0, _, _, _, _ => none
  | k + 1, x0, x1, x5, x6 => if x6 < x1 then ((backstepref12_times.f x5 x0).bind fun t234 => (backstepref12_power.l0 k x0 x1 t234 (wrap64 (x6 + 1)))) else (some x5)
def backstepref12_power.f (k : Nat) (a0 : Int) (a1 : Int) : Option (Int) := backstepref12_power.l0 k a0 a1 1 0
theorem backstepref12_power.mono_l : ∀ k, (∀ y0 y1 y2 y3, LeO (backstepref12_power.l0 k y0 y1 y2 y3) (backstepref12_power.l0 (k + 1) y0 y1 y2 y3))
  | 0 => fun _ _ _ _ r h => by simp [backstepref12_power.l0] at h
  | k + 1 => by
    have ih0 := backstepref12_power.mono_l k
    · intro y0 y1 y2 y3
      unfold backstepref12_power.l0
      repeat' first
      | (with_reducible exact ih0 _ _ _ _)
      | (with_reducible exact LeO.refl _)
      | (with_reducible exact LeO.none _)
      | (with_reducible refine LeO.ite ?_ ?_)
      | (with_reducible refine LeO.bind ?_ (fun _ => ?_))
      | exact ih0 _ _ _ _
      | exact LeO.none _
      | refine LeO.ite ?_ ?_
      | refine LeO.bind ?_ (fun _ => ?_)
theorem backstepref12_power.mono : ∀ a0 a1 k, LeO (backstepref12_power.f k a0 a1) (backstepref12_power.f (k + 1) a0 a1) := by
  intro a0 a1 k
  have ih0 := backstepref12_power.mono_l k
  unfold backstepref12_power.f
  repeat' first
      | (with_reducible exact ih0 _ _ _ _)
      | (with_reducible exact LeO.refl _)
      | (with_reducible exact LeO.none _)
      | (with_reducible refine LeO.ite ?_ ?_)
      | (with_reducible refine LeO.bind ?_ (fun _ => ?_))
      | exact ih0 _ _ _ _
      | exact LeO.none _
      | refine LeO.ite ?_ ?_
      | refine LeO.bind ?_ (fun _ => ?_)
set_option maxHeartbeats 8000000 in
set_option maxRecDepth 100000 in
theorem backstepref12_power.calls (k : Nat) (a0 : Int) (a1 : Int) (r : Int) (w : World) (h : backstepref12_power.f k a0 a1 = some r) :
    Calls Try.prog 47 #[.int .i64 a0, .int .i64 a1] w fun e w' => e = .returned (.int .i64 r) ∧ Drawn0 w w' := by
  have H : (backstepref12_power.l0 k a0 a1 1 0) = some r := h
  clear h
  have H' := Aside0.mk H
  clear H
  go_enter Try.func47, Try.ntmps47
  go_wp2
  go_loopg [5, 6] k (fun kq v5 v6 w' => ∃ (x5_1 : Int) (x6_1 : Int), v5 = .int .i64 x5_1 ∧ v6 = .int .i64 x6_1 ∧ Aside0 (backstepref12_power.l0 kq a0 a1 x5_1 x6_1 = some r) ∧ Aside0 (kq ≤ k) ∧ Drawn0 w w')
  case atStart => exact ⟨(1), (0), (by first | rfl | (simp; done) | (simp [*]; done)), (by first | rfl | (simp; done) | (simp [*]; done)), H', ⟨Nat.le_refl _⟩, by repeat (first | exact Drawn0.refl _ | apply Drawn0.step)⟩
  case round =>
    clear H'
    try clear p2
    obtain ⟨x5_1, x6_1, rfl, rfl, HA, HK1, ⟨m1, rfl⟩⟩ := hrel
    cases gk with
    | zero => exact absurd HA.out (by simp [backstepref12_power.l0])
    | succ k1 =>
      have H := HA.out
      clear HA
      simp only [backstepref12_power.l0] at H
      by_cases c3 : x6_1 < a1
      · rw [if_pos c3] at H
        have c3b0 : decide (x6_1 < a1) = true := decide_eq_true c3
        clear c3
        replace H := Option.bind_eq_some_iff.mp H
        obtain ⟨t234, A40, H⟩ := H
        replace H : (backstepref12_power.l0 k1 a0 a1 t234 (wrap64 (x6_1 + 1))) = some r := H
        have A4 := Aside0.mk A40
        clear A40
        have H' := Aside0.mk H
        clear H
        go_wp2_with (first | ((with_reducible refine gate_callee (f := 46) rfl ?_); refine goesL_ (some 14) rfl rfl Try.func46 (by kernel_rfl) rfl #[.int .i64 x5_1, .int .i64 a0] rfl (by (try simp only [List.map_toArray, List.map_cons, List.map_nil]); first | done | rfl | (simp only [List.length_drop, List.length_take]; rfl)) ?_; (with_reducible refine (backstepref12_times.calls x5_1 a0 t234 _ A4.out).mono ?_); rintro e w' ⟨rfl, ⟨nd, rfl⟩⟩; refine ⟨_, rfl, ?_⟩))
        go_roundg k1
        case measure => have := HK1.out; omega
        case rel => exact ⟨(t234), (wrap64 (x6_1 + 1)), (by first | rfl | (simp; done) | (simp [*]; done)), (by first | rfl | (simp; done) | (simp [*]; done)), H', ⟨by have := HK1.out; omega⟩, by repeat (first | exact Drawn0.refl _ | apply Drawn0.step)⟩
      · rw [if_neg c3] at H
        have c3b0 : decide (x6_1 < a1) = false := decide_eq_false c3
        clear c3
        obtain rfl := Option.some.inj H
        go_wp2
        go_ret
        exact ⟨by first | rfl | (simp; done) | (simp [*]; done), by repeat (first | exact Drawn0.refl _ | apply Drawn0.step)⟩
def backstepref12_upTo.l0 : Nat → Int → Int → Int → Int → Option (Int)
  | 0, _, _, _, _ => none
  | k + 1, x0, x1, x5, x6 => if x6 ≤ x1 then ((backstepref12_power.f k x0 x6).bind fun t235 => (if (wrap64 (x5 + t235)) > 1099511627776 then (some 1099511627777) else (backstepref12_upTo.l0 k x0 x1 (wrap64 (x5 + t235)) (wrap64 (x6 + 1))))) else (some x5)
def backstepref12_upTo.f (k : Nat) (a0 : Int) (a1 : Int) : Option (Int) := backstepref12_upTo.l0 k a0 a1 0 0
theorem backstepref12_upTo.mono_l : ∀ k, (∀ y0 y1 y2 y3, LeO (backstepref12_upTo.l0 k y0 y1 y2 y3) (backstepref12_upTo.l0 (k + 1) y0 y1 y2 y3))
  | 0 => fun _ _ _ _ r h => by simp [backstepref12_upTo.l0] at h
  | k + 1 => by
    have ih0 := backstepref12_upTo.mono_l k
    · intro y0 y1 y2 y3
      unfold backstepref12_upTo.l0
      repeat' first
      | (with_reducible exact ih0 _ _ _ _)
      | (with_reducible exact backstepref12_power.mono _ _ _)
      | (with_reducible exact LeO.refl _)
      | (with_reducible exact LeO.none _)
      | (with_reducible refine LeO.ite ?_ ?_)
      | (with_reducible refine LeO.bind ?_ (fun _ => ?_))
      | exact ih0 _ _ _ _
      | exact backstepref12_power.mono _ _ _
      | exact LeO.none _
      | refine LeO.ite ?_ ?_
      | refine LeO.bind ?_ (fun _ => ?_)
theorem backstepref12_upTo.mono : ∀ a0 a1 k, LeO (backstepref12_upTo.f k a0 a1) (backstepref12_upTo.f (k + 1) a0 a1) := by
  intro a0 a1 k
  have ih0 := backstepref12_upTo.mono_l k
  unfold backstepref12_upTo.f
  repeat' first
      | (with_reducible exact ih0 _ _ _ _)
      | (with_reducible exact backstepref12_power.mono _ _ _)
      | (with_reducible exact LeO.refl _)
      | (with_reducible exact LeO.none _)
      | (with_reducible refine LeO.ite ?_ ?_)
      | (with_reducible refine LeO.bind ?_ (fun _ => ?_))
      | exact ih0 _ _ _ _
      | exact backstepref12_power.mono _ _ _
      | exact LeO.none _
      | refine LeO.ite ?_ ?_
      | refine LeO.bind ?_ (fun _ => ?_)
set_option maxHeartbeats 8000000 in
set_option maxRecDepth 100000 in
theorem backstepref12_upTo.calls (k : Nat) (a0 : Int) (a1 : Int) (r : Int) (w : World) (h : backstepref12_upTo.f k a0 a1 = some r) :
    Calls Try.prog 45 #[.int .i64 a0, .int .i64 a1] w fun e w' => e = .returned (.int .i64 r) ∧ Drawn0 w w' := by
  have H : (backstepref12_upTo.l0 k a0 a1 0 0) = some r := h
  clear h
  have H' := Aside0.mk H
  clear H
  go_enter Try.func45, Try.ntmps45
  go_wp2
  go_loopg [5, 6] k (fun kq v5 v6 w' => ∃ (x5_1 : Int) (x6_1 : Int), v5 = .int .i64 x5_1 ∧ v6 = .int .i64 x6_1 ∧ Aside0 (backstepref12_upTo.l0 kq a0 a1 x5_1 x6_1 = some r) ∧ Aside0 (kq ≤ k) ∧ Drawn0 w w')
  case atStart => exact ⟨(0), (0), (by first | rfl | (simp; done) | (simp [*]; done)), (by first | rfl | (simp; done) | (simp [*]; done)), H', ⟨Nat.le_refl _⟩, by repeat (first | exact Drawn0.refl _ | apply Drawn0.step)⟩
  case round =>
    clear H'
    try clear p2
    obtain ⟨x5_1, x6_1, rfl, rfl, HA, HK1, ⟨m1, rfl⟩⟩ := hrel
    cases gk with
    | zero => exact absurd HA.out (by simp [backstepref12_upTo.l0])
    | succ k1 =>
      have H := HA.out
      clear HA
      simp only [backstepref12_upTo.l0] at H
      by_cases c3 : x6_1 ≤ a1
      · rw [if_pos c3] at H
        have c3b0 : decide (x6_1 ≤ a1) = true := decide_eq_true c3
        clear c3
        replace H := Option.bind_eq_some_iff.mp H
        obtain ⟨t235, A40, H⟩ := H
        replace H : (if (wrap64 (x5_1 + t235)) > 1099511627776 then (some 1099511627777) else (backstepref12_upTo.l0 k1 a0 a1 (wrap64 (x5_1 + t235)) (wrap64 (x6_1 + 1)))) = some r := H
        have A4 := Aside0.mk A40
        clear A40
        by_cases c5 : (wrap64 (x5_1 + t235)) > 1099511627776
        · rw [if_pos c5] at H
          have c5b0 : decide (1099511627776 < (wrap64 (x5_1 + t235))) = true := decide_eq_true c5
          clear c5
          obtain rfl := Option.some.inj H
          go_wp2_with (first | ((with_reducible refine gate_callee (f := 47) rfl ?_); refine goesL_ (some 15) rfl rfl Try.func47 (by kernel_rfl) rfl #[.int .i64 a0, .int .i64 x6_1] rfl (by (try simp only [List.map_toArray, List.map_cons, List.map_nil]); first | done | rfl | (simp only [List.length_drop, List.length_take]; rfl)) ?_; (with_reducible refine (backstepref12_power.calls k1 a0 x6_1 t235 _ A4.out).mono ?_); rintro e w' ⟨rfl, ⟨nd, rfl⟩⟩; refine ⟨_, rfl, ?_⟩))
          go_ret
          exact ⟨by first | rfl | (simp; done) | (simp [*]; done), by repeat (first | exact Drawn0.refl _ | apply Drawn0.step)⟩
        · rw [if_neg c5] at H
          have c5b0 : decide (1099511627776 < (wrap64 (x5_1 + t235))) = false := decide_eq_false c5
          clear c5
          have H' := Aside0.mk H
          clear H
          go_wp2_with (first | ((with_reducible refine gate_callee (f := 47) rfl ?_); refine goesL_ (some 15) rfl rfl Try.func47 (by kernel_rfl) rfl #[.int .i64 a0, .int .i64 x6_1] rfl (by (try simp only [List.map_toArray, List.map_cons, List.map_nil]); first | done | rfl | (simp only [List.length_drop, List.length_take]; rfl)) ?_; (with_reducible refine (backstepref12_power.calls k1 a0 x6_1 t235 _ A4.out).mono ?_); rintro e w' ⟨rfl, ⟨nd, rfl⟩⟩; refine ⟨_, rfl, ?_⟩))
          go_roundg k1
          case measure => have := HK1.out; omega
          case rel => exact ⟨(wrap64 (x5_1 + t235)), (wrap64 (x6_1 + 1)), (by first | rfl | (simp; done) | (simp [*]; done)), (by first | rfl | (simp; done) | (simp [*]; done)), H', ⟨by have := HK1.out; omega⟩, by repeat (first | exact Drawn0.refl _ | apply Drawn0.step)⟩
      · rw [if_neg c3] at H
        have c3b0 : decide (x6_1 ≤ a1) = false := decide_eq_false c3
        clear c3
        obtain rfl := Option.some.inj H
        go_wp2
        go_ret
        exact ⟨by first | rfl | (simp; done) | (simp [*]; done), by repeat (first | exact Drawn0.refl _ | apply Drawn0.step)⟩
def backstepref12_Count.l0 : Nat → List (S48) → Int → Int → Int → Int → Option (Int)
  | 0, _, _, _, _, _ => none
  | k + 1, x0, x1, x2, x9, x10 => if x10 < (x0.length : Int) then (if 0 ≤ x10 then (if ((rd_T48 x0 x10).f1) = 1 then ((backstepref12_times.f x9 (wrap64 ((wrap64 (2 * x1)) + 1))).bind fun t238 => (backstepref12_Count.l0 k x0 x1 x2 t238 (wrap64 (x10 + 1)))) else (if ((rd_T48 x0 x10).f1) = 2 then ((backstepref12_power.f k (wrap64 ((wrap64 (2 * x1)) + 1)) ((rd_T48 x0 x10).f2)).bind fun t240 => ((backstepref12_times.f x9 t240).bind fun t241 => (backstepref12_Count.l0 k x0 x1 x2 t241 (wrap64 (x10 + 1))))) else (if ((rd_T48 x0 x10).f1) = 3 then ((backstepref12_upTo.f k (wrap64 ((wrap64 (2 * x1)) + 1)) x2).bind fun t242 => ((backstepref12_times.f x9 t242).bind fun t243 => (backstepref12_Count.l0 k x0 x1 x2 t243 (wrap64 (x10 + 1))))) else (backstepref12_Count.l0 k x0 x1 x2 x9 (wrap64 (x10 + 1)))))) else (none)) else (some x9)
def backstepref12_Count.f (k : Nat) (l0 : List (S48)) (a1 : Int) (a2 : Int) (a3 : Int) : Option (Int) := (backstepref12_upTo.f k (wrap64 ((wrap64 (2 * a1)) + 1)) a3).bind fun t236 => (backstepref12_Count.l0 k l0 a1 a2 t236 0)
theorem backstepref12_Count.mono_l : ∀ k, (∀ y0 y1 y2 y3 y4, LeO (backstepref12_Count.l0 k y0 y1 y2 y3 y4) (backstepref12_Count.l0 (k + 1) y0 y1 y2 y3 y4))
  | 0 => fun _ _ _ _ _ r h => by simp [backstepref12_Count.l0] at h
  | k + 1 => by
    have ih0 := backstepref12_Count.mono_l k
    · intro y0 y1 y2 y3 y4
      unfold backstepref12_Count.l0
      repeat' first
      | (with_reducible exact ih0 _ _ _ _ _)
      | (with_reducible exact backstepref12_power.mono _ _ _)
      | (with_reducible exact backstepref12_upTo.mono _ _ _)
      | (with_reducible exact LeO.refl _)
      | (with_reducible exact LeO.none _)
      | (with_reducible refine LeO.ite ?_ ?_)
      | (with_reducible refine LeO.bind ?_ (fun _ => ?_))
      | exact ih0 _ _ _ _ _
      | exact backstepref12_power.mono _ _ _
      | exact backstepref12_upTo.mono _ _ _
      | exact LeO.none _
      | refine LeO.ite ?_ ?_
      | refine LeO.bind ?_ (fun _ => ?_)
theorem backstepref12_Count.mono : ∀ a0 a1 a2 a3 k, LeO (backstepref12_Count.f k a0 a1 a2 a3) (backstepref12_Count.f (k + 1) a0 a1 a2 a3) := by
  intro a0 a1 a2 a3 k
  have ih0 := backstepref12_Count.mono_l k
  unfold backstepref12_Count.f
  repeat' first
      | (with_reducible exact ih0 _ _ _ _ _)
      | (with_reducible exact backstepref12_power.mono _ _ _)
      | (with_reducible exact backstepref12_upTo.mono _ _ _)
      | (with_reducible exact LeO.refl _)
      | (with_reducible exact LeO.none _)
      | (with_reducible refine LeO.ite ?_ ?_)
      | (with_reducible refine LeO.bind ?_ (fun _ => ?_))
      | exact ih0 _ _ _ _ _
      | exact backstepref12_power.mono _ _ _
      | exact backstepref12_upTo.mono _ _ _
      | exact LeO.none _
      | refine LeO.ite ?_ ?_
      | refine LeO.bind ?_ (fun _ => ?_)
set_option maxHeartbeats 8000000 in
set_option maxRecDepth 100000 in
theorem backstepref12_Count.calls (k : Nat) (A0 : Option Addr) (c0 : Nat) (l0 : List (S48)) (a1 : Int) (a2 : Int) (a3 : Int) (r : Int) (w : World) (hr0 : Kd.C k48 w A0 l0.length l0) (hc0 : l0.length ≤ c0) (h : backstepref12_Count.f k l0 a1 a2 a3 = some r) :
    Calls Try.prog 28 #[.slice A0 l0.length c0, .int .i64 a1, .int .i64 a2, .int .i64 a3] w fun e w' => e = .returned (.int .i64 r) ∧ Drawn0 w w' := by
  have HR0 := Aside0.mk hr0
  have HC0 := Aside0.mk hc0
  clear hr0 hc0
  have H : ((backstepref12_upTo.f k (wrap64 ((wrap64 (2 * a1)) + 1)) a3).bind fun t236 => (backstepref12_Count.l0 k l0 a1 a2 t236 0)) = some r := h
  clear h
  replace H := Option.bind_eq_some_iff.mp H
  obtain ⟨t236, A50, H⟩ := H
  replace H : (backstepref12_Count.l0 k l0 a1 a2 t236 0) = some r := H
  have A5 := Aside0.mk A50
  clear A50
  have H' := Aside0.mk H
  clear H
  go_enter Try.func28, Try.ntmps28
  go_wp2_with (first | ((with_reducible refine gate_callee (f := 45) rfl ?_); refine goesL_ (some 15) rfl rfl Try.func45 (by kernel_rfl) rfl #[.int .i64 (wrap64 ((wrap64 (2 * a1)) + 1)), .int .i64 a3] rfl (by (try simp only [List.map_toArray, List.map_cons, List.map_nil]); first | done | rfl | (simp only [List.length_drop, List.length_take]; rfl)) ?_; (with_reducible refine (backstepref12_upTo.calls k (wrap64 ((wrap64 (2 * a1)) + 1)) a3 t236 _ A5.out).mono ?_); rintro e w' ⟨rfl, ⟨nd, rfl⟩⟩; refine ⟨_, rfl, ?_⟩))
  go_loopg [9, 10] k (fun kq v9 v10 w' => ∃ (x9_1 : Int) (x10_1 : Int), v9 = .int .i64 x9_1 ∧ v10 = .int .i64 x10_1 ∧ Aside0 (backstepref12_Count.l0 kq l0 a1 a2 x9_1 x10_1 = some r) ∧ Aside0 (kq ≤ k) ∧ Drawn0 w w')
  case atStart => exact ⟨(t236), (0), (by first | rfl | (simp; done) | (simp [*]; done)), (by first | rfl | (simp; done) | (simp [*]; done)), H', ⟨Nat.le_refl _⟩, by repeat (first | exact Drawn0.refl _ | apply Drawn0.step)⟩
  case round =>
    clear H'
    try clear c2
    try clear p2
    try clear c4
    obtain ⟨x9_1, x10_1, rfl, rfl, HA, HK1, ⟨m1, rfl⟩⟩ := hrel
    cases gk with
    | zero => exact absurd HA.out (by simp [backstepref12_Count.l0])
    | succ k1 =>
      have H := HA.out
      clear HA
      simp only [backstepref12_Count.l0] at H
      by_cases c6 : x10_1 < (l0.length : Int)
      · rw [if_pos c6] at H
        have c6b0 : decide (x10_1 < (l0.length : Int)) = true := decide_eq_true c6
        clear c6
        by_cases c7 : 0 ≤ x10_1
        · rw [if_pos c7] at H
          have c7b0 : decide (0 ≤ x10_1) = true := decide_eq_true c7
          clear c7
          by_cases c8 : ((rd_T48 l0 x10_1).f1) = 1
          · rw [if_pos c8] at H
            have c8b0 : (((rd_T48 l0 x10_1).f1) == 1) = true := beq_iff_eq.mpr c8
            have c8b1 : (((rd_T48 l0 x10_1).f1) != 1) = false := bne_eq_false_iff_eq.mpr c8
            clear c8
            replace H := Option.bind_eq_some_iff.mp H
            obtain ⟨t238, A90, H⟩ := H
            replace H : (backstepref12_Count.l0 k1 l0 a1 a2 t238 (wrap64 (x10_1 + 1))) = some r := H
            have A9 := Aside0.mk A90
            clear A90
            have H' := Aside0.mk H
            clear H
            have p237 : 0 ≤ (x10_1 : Int) := of_decide_eq_true (by first | (with_reducible assumption) | assumption)
            have q237 : x10_1 < (l0.length : Int) := of_decide_eq_true (by first | (with_reducible assumption) | assumption)
            obtain ⟨ad237, e237, hx237_0, hx237_1, hx237_2⟩ := at_T48 HR0.out x10_1 p237 q237
            cases e237
            replace p237 := eq_true p237
            replace q237 := eq_true q237
            go_wp2_with (first | ((with_reducible refine gate_callee (f := 46) rfl ?_); refine goesL_ (some 33) rfl rfl Try.func46 (by kernel_rfl) rfl #[.int .i64 x9_1, .int .i64 (wrap64 ((wrap64 (2 * a1)) + 1))] rfl (by (try simp only [List.map_toArray, List.map_cons, List.map_nil]); first | done | rfl | (simp only [List.length_drop, List.length_take]; rfl)) ?_; (with_reducible refine (backstepref12_times.calls x9_1 (wrap64 ((wrap64 (2 * a1)) + 1)) t238 _ A9.out).mono ?_); rintro e w' ⟨rfl, ⟨nd, rfl⟩⟩; refine ⟨_, rfl, ?_⟩))
            go_roundg k1
            case measure => have := HK1.out; omega
            case rel => exact ⟨(t238), (wrap64 (x10_1 + 1)), (by first | rfl | (simp; done) | (simp [*]; done)), (by first | rfl | (simp; done) | (simp [*]; done)), H', ⟨by have := HK1.out; omega⟩, by repeat (first | exact Drawn0.refl _ | apply Drawn0.step)⟩
          · rw [if_neg c8] at H
            have c8b0 : (((rd_T48 l0 x10_1).f1) == 1) = false := beq_eq_false_iff_ne.mpr c8
            have c8b1 : (((rd_T48 l0 x10_1).f1) != 1) = true := bne_iff_ne.mpr c8
            by_cases c10 : ((rd_T48 l0 x10_1).f1) = 2
            · rw [if_pos c10] at H
              have c10b0 : (((rd_T48 l0 x10_1).f1) == 2) = true := beq_iff_eq.mpr c10
              have c10b1 : (((rd_T48 l0 x10_1).f1) != 2) = false := bne_eq_false_iff_eq.mpr c10
              clear c10
              replace H := Option.bind_eq_some_iff.mp H
              obtain ⟨t240, A110, H⟩ := H
              replace H : ((backstepref12_times.f x9_1 t240).bind fun t241 => (backstepref12_Count.l0 k1 l0 a1 a2 t241 (wrap64 (x10_1 + 1)))) = some r := H
              have A11 := Aside0.mk A110
              clear A110
              replace H := Option.bind_eq_some_iff.mp H
              obtain ⟨t241, A120, H⟩ := H
              replace H : (backstepref12_Count.l0 k1 l0 a1 a2 t241 (wrap64 (x10_1 + 1))) = some r := H
              have A12 := Aside0.mk A120
              clear A120
              have H' := Aside0.mk H
              clear H
              have p237 : 0 ≤ (x10_1 : Int) := of_decide_eq_true (by first | (with_reducible assumption) | assumption)
              have q237 : x10_1 < (l0.length : Int) := of_decide_eq_true (by first | (with_reducible assumption) | assumption)
              obtain ⟨ad237, e237, hx237_0, hx237_1, hx237_2⟩ := at_T48 HR0.out x10_1 p237 q237
              cases e237
              replace p237 := eq_true p237
              replace q237 := eq_true q237
              have p239 : 0 ≤ (x10_1 : Int) := of_decide_eq_true (by first | (with_reducible assumption) | assumption)
              have q239 : x10_1 < (l0.length : Int) := of_decide_eq_true (by first | (with_reducible assumption) | assumption)
              obtain ⟨ad239, e239, hx239_0, hx239_1, hx239_2⟩ := at_T48 HR0.out x10_1 p239 q239
              obtain rfl : ad237 = ad239 := (by injection e239)
              replace p239 := eq_true p239
              replace q239 := eq_true q239
              go_wp2_with (first | ((with_reducible refine gate_callee (f := 47) rfl ?_); refine goesL_ (some 45) rfl rfl Try.func47 (by kernel_rfl) rfl #[.int .i64 (wrap64 ((wrap64 (2 * a1)) + 1)), .int .i64 ((rd_T48 l0 x10_1).f2)] rfl (by (try simp only [List.map_toArray, List.map_cons, List.map_nil]); first | done | rfl | (simp only [List.length_drop, List.length_take]; rfl)) ?_; (with_reducible refine (backstepref12_power.calls k1 (wrap64 ((wrap64 (2 * a1)) + 1)) ((rd_T48 l0 x10_1).f2) t240 _ A11.out).mono ?_); rintro e w' ⟨rfl, ⟨nd, rfl⟩⟩; refine ⟨_, rfl, ?_⟩) | ((with_reducible refine gate_callee (f := 46) rfl ?_); refine goesL_ (some 46) rfl rfl Try.func46 (by kernel_rfl) rfl #[.int .i64 x9_1, .int .i64 t240] rfl (by (try simp only [List.map_toArray, List.map_cons, List.map_nil]); first | done | rfl | (simp only [List.length_drop, List.length_take]; rfl)) ?_; (with_reducible refine (backstepref12_times.calls x9_1 t240 t241 _ A12.out).mono ?_); rintro e w' ⟨rfl, ⟨nd, rfl⟩⟩; refine ⟨_, rfl, ?_⟩))
              go_roundg k1
              case measure => have := HK1.out; omega
              case rel => exact ⟨(t241), (wrap64 (x10_1 + 1)), (by first | rfl | (simp; done) | (simp [*]; done)), (by first | rfl | (simp; done) | (simp [*]; done)), H', ⟨by have := HK1.out; omega⟩, by repeat (first | exact Drawn0.refl _ | apply Drawn0.step)⟩
            · rw [if_neg c10] at H
              have c10b0 : (((rd_T48 l0 x10_1).f1) == 2) = false := beq_eq_false_iff_ne.mpr c10
              have c10b1 : (((rd_T48 l0 x10_1).f1) != 2) = true := bne_iff_ne.mpr c10
              by_cases c13 : ((rd_T48 l0 x10_1).f1) = 3
              · rw [if_pos c13] at H
                have c13b0 : (((rd_T48 l0 x10_1).f1) == 3) = true := beq_iff_eq.mpr c13
                have c13b1 : (((rd_T48 l0 x10_1).f1) != 3) = false := bne_eq_false_iff_eq.mpr c13
                clear c13
                replace H := Option.bind_eq_some_iff.mp H
                obtain ⟨t242, A140, H⟩ := H
                replace H : ((backstepref12_times.f x9_1 t242).bind fun t243 => (backstepref12_Count.l0 k1 l0 a1 a2 t243 (wrap64 (x10_1 + 1)))) = some r := H
                have A14 := Aside0.mk A140
                clear A140
                replace H := Option.bind_eq_some_iff.mp H
                obtain ⟨t243, A150, H⟩ := H
                replace H : (backstepref12_Count.l0 k1 l0 a1 a2 t243 (wrap64 (x10_1 + 1))) = some r := H
                have A15 := Aside0.mk A150
                clear A150
                have H' := Aside0.mk H
                clear H
                have p237 : 0 ≤ (x10_1 : Int) := of_decide_eq_true (by first | (with_reducible assumption) | assumption)
                have q237 : x10_1 < (l0.length : Int) := of_decide_eq_true (by first | (with_reducible assumption) | assumption)
                obtain ⟨ad237, e237, hx237_0, hx237_1, hx237_2⟩ := at_T48 HR0.out x10_1 p237 q237
                cases e237
                replace p237 := eq_true p237
                replace q237 := eq_true q237
                go_wp2_with (first | ((with_reducible refine gate_callee (f := 45) rfl ?_); refine goesL_ (some 54) rfl rfl Try.func45 (by kernel_rfl) rfl #[.int .i64 (wrap64 ((wrap64 (2 * a1)) + 1)), .int .i64 a2] rfl (by (try simp only [List.map_toArray, List.map_cons, List.map_nil]); first | done | rfl | (simp only [List.length_drop, List.length_take]; rfl)) ?_; (with_reducible refine (backstepref12_upTo.calls k1 (wrap64 ((wrap64 (2 * a1)) + 1)) a2 t242 _ A14.out).mono ?_); rintro e w' ⟨rfl, ⟨nd, rfl⟩⟩; refine ⟨_, rfl, ?_⟩) | ((with_reducible refine gate_callee (f := 46) rfl ?_); refine goesL_ (some 55) rfl rfl Try.func46 (by kernel_rfl) rfl #[.int .i64 x9_1, .int .i64 t242] rfl (by (try simp only [List.map_toArray, List.map_cons, List.map_nil]); first | done | rfl | (simp only [List.length_drop, List.length_take]; rfl)) ?_; (with_reducible refine (backstepref12_times.calls x9_1 t242 t243 _ A15.out).mono ?_); rintro e w' ⟨rfl, ⟨nd, rfl⟩⟩; refine ⟨_, rfl, ?_⟩))
                go_roundg k1
                case measure => have := HK1.out; omega
                case rel => exact ⟨(t243), (wrap64 (x10_1 + 1)), (by first | rfl | (simp; done) | (simp [*]; done)), (by first | rfl | (simp; done) | (simp [*]; done)), H', ⟨by have := HK1.out; omega⟩, by repeat (first | exact Drawn0.refl _ | apply Drawn0.step)⟩
              · rw [if_neg c13] at H
                have c13b0 : (((rd_T48 l0 x10_1).f1) == 3) = false := beq_eq_false_iff_ne.mpr c13
                have c13b1 : (((rd_T48 l0 x10_1).f1) != 3) = true := bne_iff_ne.mpr c13
                have H' := Aside0.mk H
                clear H
                have p237 : 0 ≤ (x10_1 : Int) := of_decide_eq_true (by first | (with_reducible assumption) | assumption)
                have q237 : x10_1 < (l0.length : Int) := of_decide_eq_true (by first | (with_reducible assumption) | assumption)
                obtain ⟨ad237, e237, hx237_0, hx237_1, hx237_2⟩ := at_T48 HR0.out x10_1 p237 q237
                cases e237
                replace p237 := eq_true p237
                replace q237 := eq_true q237
                go_wp2
                go_roundg k1
                case measure => have := HK1.out; omega
                case rel => exact ⟨(x9_1), (wrap64 (x10_1 + 1)), (by first | rfl | (simp; done) | (simp [*]; done)), (by first | rfl | (simp; done) | (simp [*]; done)), H', ⟨by have := HK1.out; omega⟩, by repeat (first | exact Drawn0.refl _ | apply Drawn0.step)⟩
        · rw [if_neg c7] at H
          exact absurd H (by simp)
      · rw [if_neg c6] at H
        have c6b0 : decide (x10_1 < (l0.length : Int)) = false := decide_eq_false c6
        clear c6
        obtain rfl := Option.some.inj H
        go_wp2
        go_ret
        exact ⟨by first | rfl | (simp; done) | (simp [*]; done), by repeat (first | exact Drawn0.refl _ | apply Drawn0.step)⟩
def backsteplaw12_small.f (k : Nat) (l0 : List (S48)) (a1_0 : Int) (a1_1 : Int) (a1_2 : Int) : Option (Bool) := if (l0.length : Int) ≤ 6 then ((backstepref12_Valid.f k l0 a1_0 a1_1 a1_2).bind fun t245 => (if t245 = true then ((backstepref12_Count.f k l0 a1_0 a1_1 a1_2).bind fun t246 => (some (decide (t246 ≤ 500)))) else (some false))) else (some false)
set_option maxHeartbeats 8000000 in
set_option maxRecDepth 100000 in
theorem backsteplaw12_small.calls (k : Nat) (A0 : Option Addr) (c0 : Nat) (l0 : List (S48)) (a1_0 : Int) (a1_1 : Int) (a1_2 : Int) (r : Bool) (w : World) (hr0 : Kd.C k48 w A0 l0.length l0) (hc0 : l0.length ≤ c0) (h : backsteplaw12_small.f k l0 a1_0 a1_1 a1_2 = some r) :
    Calls Try.prog 12 #[.slice A0 l0.length c0, .agg #[.int .i64 a1_0, .int .i64 a1_1, .int .i64 a1_2]] w fun e w' => e = .returned (.bool r) ∧ Below w.heap.size w w' := by
  have hu24 := Try.underlying24
  have HR0 := Aside0.mk hr0
  have HC0 := Aside0.mk hc0
  clear hr0 hc0
  have HB := Aside0.mk (Below.refl w.heap.size w)
  have H : (if (l0.length : Int) ≤ 6 then ((backstepref12_Valid.f k l0 a1_0 a1_1 a1_2).bind fun t245 => (if t245 = true then ((backstepref12_Count.f k l0 a1_0 a1_1 a1_2).bind fun t246 => (some (decide (t246 ≤ 500)))) else (some false))) else (some false)) = some r := h
  clear h
  by_cases c3 : (l0.length : Int) ≤ 6
  · rw [if_pos c3] at H
    have c3b0 : decide ((l0.length : Int) ≤ 6) = true := decide_eq_true c3
    have c3b1 : decide (l0.length ≤ 6) = true := decide_eq_true (by omega)
    clear c3
    replace H := Option.bind_eq_some_iff.mp H
    obtain ⟨t245, A40, H⟩ := H
    replace H : (if t245 = true then ((backstepref12_Count.f k l0 a1_0 a1_1 a1_2).bind fun t246 => (some (decide (t246 ≤ 500)))) else (some false)) = some r := H
    have A4 := Aside0.mk A40
    clear A40
    by_cases c5 : t245 = true
    · subst c5
      have H1 : ((backstepref12_Count.f k l0 a1_0 a1_1 a1_2).bind fun t246 => (some (decide (t246 ≤ 500)))) = some r := by rw [if_pos rfl] at H; exact H
      clear H
      have H := H1
      clear H1
      replace H := Option.bind_eq_some_iff.mp H
      obtain ⟨t246, A60, H⟩ := H
      replace H : (some (decide (t246 ≤ 500))) = some r := H
      have A6 := Aside0.mk A60
      clear A60
      obtain rfl := Option.some.inj H
      go_enter Try.func12, Try.ntmps12
      go_wp2_with (first | ((with_reducible refine gate_dst (N := 3) rfl ?_); refine box_event ?hg (N := 3) ?hd (cs := #[.int .i64 a1_0, .int .i64 a1_1, .int .i64 a1_2]) (t := 24) ?hr ?_; (case hd => rfl); (case hg => rfl); (case hr => first | (go_simp; done) | (go_simp; rfl)); intro gb244 hg w7 hbox hb; have n0_ := Aside0.mk (below_step (by repeat (first | (with_reducible first | exact HB.out | apply below_alloc | apply pw_below_drewN | apply below_drew1) | exact HB.out)) hb); have n1_ := Aside0.mk (hbox); have n2_ := Aside0.mk ((by rw [hg]; exact (below_size (by repeat (first | (with_reducible first | exact HB.out | apply below_alloc | apply pw_below_drewN | apply below_drew1) | exact HB.out))) : w.heap.size ≤ gb244)); have n3_ := Aside0.mk ((by rw [hg]; exact (below_size (by repeat (first | (with_reducible first | exact HB.out | apply below_alloc | apply pw_below_drewN | apply below_drew1) | exact HB.out))) : w.heap.size ≤ gb244)); clear HB; have HB := n0_; have BK244 := n1_; have GW244 := n2_; have GE244 := n3_; clear n0_ n1_ n2_ n3_; clear hb hbox hg; have hcz8_0 : w7.cell? ⟨gb244, 0, none⟩ = some (.int .i64 a1_0) := (blk_cell BK244.out 0).trans rfl; have hcz8_1 : w7.cell? ⟨gb244, 1, none⟩ = some (.int .i64 a1_1) := (blk_cell BK244.out 1).trans rfl; have hcz8_2 : w7.cell? ⟨gb244, 2, none⟩ = some (.int .i64 a1_2) := (blk_cell BK244.out 2).trans rfl; have hfz8_0 := blk_frozen BK244.out 0; have hfz8_1 := blk_frozen BK244.out 1; have hfz8_2 := blk_frozen BK244.out 2) | (go_at_call 27; (with_reducible refine (backstepref12_Valid.calls k _ _ l0 a1_0 a1_1 a1_2 true _ ?side1 ?side2 A4.out).mono ?_); (case side1 => repeat (first | exact (Kd.C_below HR0.out HB.out) | (with_reducible refine Kd.C_alloc ?_ _) | (with_reducible refine Kd.C_drewN ?_ _) | (with_reducible refine Kd.C_drew ?_))); (case side2 => exact HC0.out); rintro e w9 ⟨rfl, hb⟩; have n0_ := Aside0.mk (blk_below (g := gb244) (o := .cells #[.int .i64 a1_0, .int .i64 a1_1, .int .i64 a1_2] 24 (0, 0)) (by (with_reducible repeat (first | refine blk_drewN ?_ _ | refine blk_drew ?_ | refine blk_alloc ?_ _)); exact BK244.out) hb); have n1_ := Aside0.mk (below_step (by repeat (first | (with_reducible first | exact HB.out | apply below_alloc | apply pw_below_drewN | apply below_drew1 | refine below_set ?_ GE244.out) | exact HB.out)) hb); clear BK244; clear HB; have BK244 := n0_; have HB := n1_; clear n0_ n1_; (try clear hb); (try clear hb2); (try clear hk); (try clear hi); have hcz10_0 : w9.cell? ⟨gb244, 0, none⟩ = some (.int .i64 a1_0) := (blk_cell BK244.out 0).trans rfl; have hcz10_1 : w9.cell? ⟨gb244, 1, none⟩ = some (.int .i64 a1_1) := (blk_cell BK244.out 1).trans rfl; have hcz10_2 : w9.cell? ⟨gb244, 2, none⟩ = some (.int .i64 a1_2) := (blk_cell BK244.out 2).trans rfl; have hfz10_0 := blk_frozen BK244.out 0; have hfz10_1 := blk_frozen BK244.out 1; have hfz10_2 := blk_frozen BK244.out 2) | (go_at_call 28; (with_reducible refine (backstepref12_Count.calls k _ _ l0 a1_0 a1_1 a1_2 t246 _ ?side1 ?side2 A6.out).mono ?_); (case side1 => repeat (first | exact (Kd.C_below HR0.out HB.out) | (with_reducible refine Kd.C_alloc ?_ _) | (with_reducible refine Kd.C_drewN ?_ _) | (with_reducible refine Kd.C_drew ?_))); (case side2 => exact HC0.out); rintro e w' ⟨rfl, ⟨nd, rfl⟩⟩))
      go_ret
      exact ⟨by first | rfl | (simp [errW_none, errW_some] <;> rfl) | (simp [*, errW_none, errW_some] <;> rfl), by repeat (first | (with_reducible first | exact HB.out | apply below_alloc | apply pw_below_drewN | apply below_drew1 | refine below_set ?_ GE244.out) | exact HB.out)⟩
    · replace c5 := Bool.eq_false_iff.mpr c5
      subst c5
      have H1 : (some false) = some r := by rw [if_neg (show ¬ (false = true) by decide)] at H; exact H
      clear H
      have H := H1
      clear H1
      obtain rfl := Option.some.inj H
      go_enter Try.func12, Try.ntmps12
      go_wp2_with (first | ((with_reducible refine gate_dst (N := 3) rfl ?_); refine box_event ?hg (N := 3) ?hd (cs := #[.int .i64 a1_0, .int .i64 a1_1, .int .i64 a1_2]) (t := 24) ?hr ?_; (case hd => rfl); (case hg => rfl); (case hr => first | (go_simp; done) | (go_simp; rfl)); intro gb244 hg w11 hbox hb; have n0_ := Aside0.mk (below_step (by repeat (first | (with_reducible first | exact HB.out | apply below_alloc | apply pw_below_drewN | apply below_drew1) | exact HB.out)) hb); have n1_ := Aside0.mk (hbox); have n2_ := Aside0.mk ((by rw [hg]; exact (below_size (by repeat (first | (with_reducible first | exact HB.out | apply below_alloc | apply pw_below_drewN | apply below_drew1) | exact HB.out))) : w.heap.size ≤ gb244)); have n3_ := Aside0.mk ((by rw [hg]; exact (below_size (by repeat (first | (with_reducible first | exact HB.out | apply below_alloc | apply pw_below_drewN | apply below_drew1) | exact HB.out))) : w.heap.size ≤ gb244)); clear HB; have HB := n0_; have BK244 := n1_; have GW244 := n2_; have GE244 := n3_; clear n0_ n1_ n2_ n3_; clear hb hbox hg; have hcz12_0 : w11.cell? ⟨gb244, 0, none⟩ = some (.int .i64 a1_0) := (blk_cell BK244.out 0).trans rfl; have hcz12_1 : w11.cell? ⟨gb244, 1, none⟩ = some (.int .i64 a1_1) := (blk_cell BK244.out 1).trans rfl; have hcz12_2 : w11.cell? ⟨gb244, 2, none⟩ = some (.int .i64 a1_2) := (blk_cell BK244.out 2).trans rfl; have hfz12_0 := blk_frozen BK244.out 0; have hfz12_1 := blk_frozen BK244.out 1; have hfz12_2 := blk_frozen BK244.out 2) | (go_at_call 27; (with_reducible refine (backstepref12_Valid.calls k _ _ l0 a1_0 a1_1 a1_2 false _ ?side1 ?side2 A4.out).mono ?_); (case side1 => repeat (first | exact (Kd.C_below HR0.out HB.out) | (with_reducible refine Kd.C_alloc ?_ _) | (with_reducible refine Kd.C_drewN ?_ _) | (with_reducible refine Kd.C_drew ?_))); (case side2 => exact HC0.out); rintro e w13 ⟨rfl, hb⟩; have n0_ := Aside0.mk (blk_below (g := gb244) (o := .cells #[.int .i64 a1_0, .int .i64 a1_1, .int .i64 a1_2] 24 (0, 0)) (by (with_reducible repeat (first | refine blk_drewN ?_ _ | refine blk_drew ?_ | refine blk_alloc ?_ _)); exact BK244.out) hb); have n1_ := Aside0.mk (below_step (by repeat (first | (with_reducible first | exact HB.out | apply below_alloc | apply pw_below_drewN | apply below_drew1 | refine below_set ?_ GE244.out) | exact HB.out)) hb); clear BK244; clear HB; have BK244 := n0_; have HB := n1_; clear n0_ n1_; (try clear hb); (try clear hb2); (try clear hk); (try clear hi)))
      go_ret
      exact ⟨by first | rfl | (simp [errW_none, errW_some] <;> rfl) | (simp [*, errW_none, errW_some] <;> rfl), by repeat (first | (with_reducible first | exact HB.out | apply below_alloc | apply pw_below_drewN | apply below_drew1 | refine below_set ?_ GE244.out) | exact HB.out)⟩
  · rw [if_neg c3] at H
    have c3b0 : decide ((l0.length : Int) ≤ 6) = false := decide_eq_false c3
    have c3b1 : decide (l0.length ≤ 6) = false := decide_eq_false (by omega)
    clear c3
    obtain rfl := Option.some.inj H
    go_enter Try.func12, Try.ntmps12
    go_wp2_with (first | ((with_reducible refine gate_dst (N := 3) rfl ?_); refine box_event ?hg (N := 3) ?hd (cs := #[.int .i64 a1_0, .int .i64 a1_1, .int .i64 a1_2]) (t := 24) ?hr ?_; (case hd => rfl); (case hg => rfl); (case hr => first | (go_simp; done) | (go_simp; rfl)); intro gb244 hg w14 hbox hb; have n0_ := Aside0.mk (below_step (by repeat (first | (with_reducible first | exact HB.out | apply below_alloc | apply pw_below_drewN | apply below_drew1) | exact HB.out)) hb); have n1_ := Aside0.mk (hbox); have n2_ := Aside0.mk ((by rw [hg]; exact (below_size (by repeat (first | (with_reducible first | exact HB.out | apply below_alloc | apply pw_below_drewN | apply below_drew1) | exact HB.out))) : w.heap.size ≤ gb244)); have n3_ := Aside0.mk ((by rw [hg]; exact (below_size (by repeat (first | (with_reducible first | exact HB.out | apply below_alloc | apply pw_below_drewN | apply below_drew1) | exact HB.out))) : w.heap.size ≤ gb244)); clear HB; have HB := n0_; have BK244 := n1_; have GW244 := n2_; have GE244 := n3_; clear n0_ n1_ n2_ n3_; clear hb hbox hg))
    go_ret
    exact ⟨by first | rfl | (simp [errW_none, errW_some] <;> rfl) | (simp [*, errW_none, errW_some] <;> rfl), by repeat (first | (with_reducible first | exact HB.out | apply below_alloc | apply pw_below_drewN | apply below_drew1 | refine below_set ?_ GE244.out) | exact HB.out)⟩
end Go.Proofs.Ytgcdeablfoomhaa.PAll
end
section
set_option linter.unusedVariables false
set_option linter.unusedSimpArgs false
namespace Go.Proofs.Ytgcdeablfoomhaa.PAll
open Go.RowKit Go.Proofs.YtgcdeablfoomhaaW.PrintWords Go.Proofs.YtgcdeablfoomhaaW.PrintLast Go.Proofs.YtgcdeablfoomhaaW.PrintMore
def tup (v : Int) : Nat → List (List Int)
  | 0 => [[]]
  | n + 1 => (tup v n).flatMap fun l => (irange (0 - v) v).map fun x => l ++ [x]
def btw (v a b : Int) : List (List Int) := (irange a b).flatMap fun n => tup v n.toNat
def boxF (v : Int) : List S62 → List (List (List Int)) → List (List (List Int))
  | [], st => st
  | s :: r, st => boxF v r (st.flatMap fun q => (btw v s.f0 s.f1).map fun l => q ++ [l])
theorem length_irange (a b : Int) : (irange a b).length = (b + 1 - a).toNat := by unfold irange; simp
theorem len_flat {α β : Type} {f : α → List β} {n : Nat} : ∀ {l : List α}, (∀ a ∈ l, (f a).length = n) → (l.flatMap f).length = l.length * n
  | [], _ => by simp
  | a :: l, h => by
    rw [List.flatMap_cons, List.length_append, h a List.mem_cons_self, len_flat (fun x hx => h x (List.mem_cons_of_mem _ hx)), List.length_cons, Nat.add_mul]; omega
theorem mem_tup {v : Int} : ∀ {n : Nat} {l : List Int}, l ∈ tup v n ↔ l.length = n ∧ ∀ x ∈ l, -v ≤ x ∧ x ≤ v
  | 0, l => by
    unfold tup
    rw [List.mem_singleton]
    constructor
    · rintro rfl; exact ⟨rfl, fun x hx => by cases hx⟩
    · rintro ⟨h, _⟩; exact List.length_eq_zero_iff.1 h
  | n + 1, l => by
    unfold tup
    rw [List.mem_flatMap]
    constructor
    · rintro ⟨p, hp, h⟩
      obtain ⟨x, hx, rfl⟩ := List.mem_map.1 h
      obtain ⟨h1, h2⟩ := mem_tup.1 hp
      rw [mem_irange] at hx
      refine ⟨by simp [h1], fun y hy => ?_⟩
      rcases List.mem_append.1 hy with hy | hy
      · exact h2 y hy
      · rw [List.mem_singleton.1 hy]; omega
    · rintro ⟨h1, h2⟩
      have hne : l ≠ [] := fun e => by rw [e] at h1; simp at h1
      refine ⟨l.dropLast, mem_tup.2 ⟨by rw [List.length_dropLast]; omega, fun x hx => h2 x (List.dropLast_subset _ hx)⟩, List.mem_map.2 ⟨l.getLast hne, ?_, List.dropLast_concat_getLast hne⟩⟩
      have := h2 _ (List.getLast_mem hne)
      rw [mem_irange]; omega
theorem nodup_irange (a b : Int) : (irange a b).Nodup := (irange_lt a b).imp fun h => by omega
theorem nodup_tup (v : Int) : ∀ n, (tup v n).Nodup
  | 0 => List.pairwise_singleton _ _
  | n + 1 => by
    unfold tup List.Nodup
    rw [List.pairwise_flatMap]
    refine ⟨fun l _ => ?_, ?_⟩
    · rw [List.pairwise_map]
      exact (nodup_irange _ _).imp fun h e => h (by simpa using e)
    · refine List.Pairwise.imp ?_ (nodup_tup v n)
      intro a b hab x hx y hy e
      obtain ⟨x', _, rfl⟩ := List.mem_map.1 hx
      obtain ⟨y', _, rfl⟩ := List.mem_map.1 hy
      exact hab (List.append_inj_left' e rfl)
theorem mem_btw {v a b : Int} (ha : 0 ≤ a) {l : List Int} : l ∈ btw v a b ↔ (a ≤ (l.length : Int) ∧ (l.length : Int) ≤ b) ∧ ∀ x ∈ l, -v ≤ x ∧ x ≤ v := by
  unfold btw
  rw [List.mem_flatMap]
  constructor
  · rintro ⟨n, hn, h⟩
    obtain ⟨h1, h2⟩ := mem_tup.1 h
    rw [mem_irange] at hn
    exact ⟨by omega, h2⟩
  · rintro ⟨h1, h2⟩
    exact ⟨(l.length : Int), mem_irange.2 h1, mem_tup.2 ⟨by omega, h2⟩⟩
theorem nodup_btw {v a b : Int} (ha : 0 ≤ a) : (btw v a b).Nodup := by
  unfold btw List.Nodup
  rw [List.pairwise_flatMap]
  refine ⟨fun n _ => nodup_tup v _, ?_⟩
  refine List.Pairwise.imp_of_mem ?_ (nodup_irange a b)
  intro n m hn hm hnm x hx y hy e
  subst e
  rw [mem_irange] at hn hm
  have := (mem_tup.1 hx).1.symm.trans (mem_tup.1 hy).1
  omega
theorem mem_boxF {v : Int} (hv : 0 ≤ v) : ∀ {sl : List S62} {st : List (List (List Int))} {q : List (List Int)}, (∀ s ∈ sl, 0 ≤ s.f0) → (q ∈ boxF v sl st ↔ ∃ p q', p ∈ st ∧ q = p ++ q' ∧ inS (2 * v) sl q')
  | [], st, q, _ => by
    unfold boxF inS
    constructor
    · intro h; exact ⟨q, [], h, by simp, rfl⟩
    · rintro ⟨p, _, h, rfl, rfl⟩; simpa using h
  | s :: r, st, q, hs => by
    unfold boxF
    rw [mem_boxF hv (fun x hx => hs x (List.mem_cons_of_mem _ hx))]
    have hs0 := hs s List.mem_cons_self
    constructor
    · rintro ⟨p, q', hp, rfl, hq⟩
      obtain ⟨p0, hp0, hp⟩ := List.mem_flatMap.1 hp
      obtain ⟨l, hl, rfl⟩ := List.mem_map.1 hp
      obtain ⟨h1, h2⟩ := (mem_btw hs0).1 hl
      exact ⟨p0, l :: q', hp0, by simp, l, q', rfl, h1.1, h1.2, fun x hx => (rankO_le hv).2 (h2 x hx), hq⟩
    · rintro ⟨p, q', hp, rfl, l, q'', rfl, h1, h2, h3, h4⟩
      refine ⟨p ++ [l], q'', List.mem_flatMap.2 ⟨p, hp, List.mem_map.2 ⟨l, (mem_btw hs0).2 ⟨⟨h1, h2⟩, fun x hx => (rankO_le hv).1 (h3 x hx)⟩, rfl⟩⟩, by simp, h4⟩
theorem nodup_boxF {v : Int} : ∀ {sl : List S62} {st : List (List (List Int))}, (∀ s ∈ sl, 0 ≤ s.f0) → st.Nodup → (boxF v sl st).Nodup
  | [], st, _, h => h
  | s :: r, st, hs, h => by
    unfold boxF
    refine nodup_boxF (fun x hx => hs x (List.mem_cons_of_mem _ hx)) ?_
    unfold List.Nodup
    rw [List.pairwise_flatMap]
    refine ⟨fun q _ => ?_, ?_⟩
    · rw [List.pairwise_map]
      exact (nodup_btw (hs s List.mem_cons_self)).imp fun h e => h (by simpa using e)
    · refine List.Pairwise.imp ?_ h
      intro a b hab x hx y hy e
      obtain ⟨x', _, rfl⟩ := List.mem_map.1 hx
      obtain ⟨y', _, rfl⟩ := List.mem_map.1 hy
      exact hab (List.append_inj_left' e rfl)
theorem nodup_allO {vars : List S48} {bv bl bi : Int} (h : validB vars bv bl bi = true) : (allO vars bv bl bi).Nodup :=
  (allO_sorted h).imp fun hab e => by subst e; exact ltP_irr _ hab
theorem allO_perm {vars : List S48} {bv bl bi : Int} (h : validB vars bv bl bi = true) : (allO vars bv bl bi).Perm (boxF bv (slotsOf vars bl bi) [[]]) := by
  have hv := (valid_box h).2.1.1
  have hs : ∀ s ∈ slotsOf vars bl bi, 0 ≤ s.f0 := fun s hs => (slots_ok h s hs).1
  rw [List.perm_ext_iff_of_nodup (nodup_allO h) (nodup_boxF hs (List.pairwise_singleton _ _))]
  intro q
  rw [mem_allO h, mem_boxF hv hs]
  constructor
  · intro hq; exact ⟨[], q, List.mem_singleton.2 rfl, rfl, hq⟩
  · rintro ⟨p, q', hp, rfl, hq⟩
    rw [List.mem_singleton.1 hp]; exact hq
def powN (v : Int) : Nat → Int
  | 0 => 1
  | n + 1 => powN v n * v
def upN (v : Int) : Nat → Int
  | 0 => 0
  | n + 1 => upN v n + powN v n
theorem powN_pos {v : Int} (h : 1 ≤ v) : ∀ n, 1 ≤ powN v n
  | 0 => by simp [powN]
  | n + 1 => by
    have := powN_pos h n
    have h2 : 1 * 1 ≤ powN v n * v := Int.mul_le_mul this h (by decide) (by omega)
    rw [powN]; omega
theorem upN_nn {v : Int} (h : 1 ≤ v) : ∀ n, 0 ≤ upN v n
  | 0 => by simp [upN]
  | n + 1 => by have := upN_nn h n; have := powN_pos h n; rw [upN]; omega
theorem upN_pos {v : Int} (h : 1 ≤ v) (n : Nat) : 1 ≤ upN v (n + 1) := by have := upN_nn h n; have := powN_pos h n; rw [upN]; omega
theorem length_tup {v : Int} (hv : 0 ≤ v) : ∀ n, ((tup v n).length : Int) = powN (2 * v + 1) n
  | 0 => rfl
  | n + 1 => by
    unfold tup
    rw [len_flat (n := (2 * v + 1).toNat) (fun l _ => by rw [List.length_map, length_irange]; omega), powN, ← length_tup hv n]
    rw [Int.natCast_mul, show (((2 * v + 1).toNat : Nat) : Int) = 2 * v + 1 by omega]
theorem length_btw1 {v : Int} (hv : 0 ≤ v) (a : Nat) : ((btw v a a).length : Int) = powN (2 * v + 1) a := by
  unfold btw irange
  rw [show ((a : Int) + 1 - a).toNat = 1 by omega]
  simp [length_tup hv]
theorem length_btw0 {v : Int} (hv : 0 ≤ v) : ∀ (b : Nat), ((btw v 0 b).length : Int) = upN (2 * v + 1) (b + 1)
  | 0 => by
    rw [show ((0 : Nat) : Int) = 0 from rfl]
    have := length_btw1 hv 0
    rw [show ((0 : Nat) : Int) = 0 from rfl] at this
    rw [this, upN, upN]; omega
  | b + 1 => by
    have ih := length_btw0 hv b
    have e : btw v 0 ((b + 1 : Nat) : Int) = btw v 0 (b : Int) ++ tup v (b + 1) := by
      unfold btw irange
      rw [show (((b + 1 : Nat) : Int) + 1 - 0).toNat = (b + 1) + 1 by omega, show ((b : Int) + 1 - 0).toNat = b + 1 by omega, List.range_succ (n := b + 1)]
      simp
    rw [e, List.length_append, Int.natCast_add, ih, length_tup hv]
    rfl
def facN (v : Int) (s : S62) : Int := if s.f0 = s.f1 then powN v s.f1.toNat else upN v (s.f1.toNat + 1)
/-- The number of lists between a slot's bounds, from 0 or of one length. -/
theorem length_btwS {v : Int} (hv : 0 ≤ v) (s : S62) (h0 : 0 ≤ s.f1) (h : s.f0 = s.f1 ∨ s.f0 = 0) : ((btw v s.f0 s.f1).length : Int) = facN (2 * v + 1) s := by
  unfold facN
  have e1 : s.f1 = (s.f1.toNat : Int) := by omega
  split
  · rename_i e
    rw [e]
    have := length_btw1 hv s.f1.toNat
    rwa [← e1] at this
  · have e0 : s.f0 = 0 := by omega
    rw [e0]
    have := length_btw0 hv s.f1.toNat
    rwa [← e1] at this
theorem length_boxF {v : Int} (hv : 0 ≤ v) : ∀ (sl : List S62) (st : List (List (List Int))), (∀ s ∈ sl, 0 ≤ s.f1 ∧ (s.f0 = s.f1 ∨ s.f0 = 0)) → ((boxF v sl st).length : Int) = sl.foldl (fun n s => n * facN (2 * v + 1) s) (st.length : Int)
  | [], st, _ => rfl
  | s :: r, st, hs => by
    unfold boxF
    have hs0 := hs s List.mem_cons_self
    rw [length_boxF hv r _ (fun x hx => hs x (List.mem_cons_of_mem _ hx)), List.foldl_cons, len_flat (n := (btw v s.f0 s.f1).length) (fun q _ => by rw [List.length_map]), Int.natCast_mul, length_btwS hv s hs0.1 hs0.2]
theorem sat_mul {a b : Int} (ha : 1 ≤ a) (hb : 1 ≤ b) : satO (satO a * satO b) = satO (a * b) := by
  have h1 := satO_ge ha
  have h2 := satO_ge hb
  have g : ∀ x y : Int, 1 ≤ x → 1 ≤ y → x ≤ x * y := fun x y hx hy => by
    have : x * 1 ≤ x * y := Int.mul_le_mul_of_nonneg_left hy (by omega)
    omega
  by_cases e : 1099511627777 < a
  · have ea : satO a = 1099511627777 := by unfold satO; rw [if_pos e]
    have k1 := g a b ha hb
    have k2 := g (satO a) (satO b) h1 h2
    rw [ea] at k2 ⊢
    have e1 : satO (1099511627777 * satO b) = 1099511627777 := by unfold satO at *; split <;> omega
    have e2 : satO (a * b) = 1099511627777 := by unfold satO; rw [if_pos (by omega)]
    rw [e1, e2]
  · have ea : satO a = a := by unfold satO; rw [if_neg e]
    rw [ea]
    by_cases f : 1099511627777 < b
    · have eb : satO b = 1099511627777 := by unfold satO; rw [if_pos f]
      have k1 := g b a hb ha
      have k2 := g (1099511627777 : Int) a (by decide) ha
      rw [eb, Int.mul_comm a, Int.mul_comm a]
      have e1 : satO (1099511627777 * a) = 1099511627777 := by unfold satO; split <;> omega
      have e2 : satO (b * a) = 1099511627777 := by unfold satO; rw [if_pos (by omega)]
      rw [e1, e2]
    · have eb : satO b = b := by unfold satO; rw [if_neg f]
      rw [eb]
theorem sat_add {a b : Int} (ha : 0 ≤ a) (hb : 0 ≤ b) : satO (satO a + satO b) = satO (a + b) := by
  have h1 := satO_0 ha
  have h2 := satO_0 hb
  unfold satO at *
  repeat' split
  all_goals omega
theorem powO_sat {v : Int} (h : 1 ≤ v) (h2 : v ≤ 1099511627777) : ∀ n, powO v n = satO (powN v n)
  | 0 => by simp [powO, powN, satO]
  | n + 1 => by
    have e : satO v = v := by unfold satO; rw [if_neg (by omega)]
    have := sat_mul (powN_pos h n) h
    rw [e] at this
    rw [powO, timesO, powO_sat h h2 n, this, powN]
theorem upO_sat {v : Int} (h : 1 ≤ v) (h2 : v ≤ 1099511627777) : ∀ n, upO v n = satO (upN v n)
  | 0 => by simp [upO, upN, satO]
  | n + 1 => by
    rw [upO, upO_sat h h2 n, powO_sat h h2 n, sat_add (upN_nn h n) (by have := powN_pos h n; omega), upN]
theorem facN_pos {v : Int} (h : 1 ≤ v) (s : S62) : 1 ≤ facN v s := by
  unfold facN
  split
  · exact powN_pos h _
  · exact upN_pos h _
theorem facO_sat {v bl : Int} (h : 1 ≤ v) (h2 : v ≤ 1099511627777) (hb : 0 ≤ bl) {x : S48} (hx : okV x = true) : facO v bl x = satO (facN v (slotOf bl x)) := by
  unfold okV at hx
  simp only [Bool.and_eq_true, Bool.or_eq_true, decide_eq_true_eq] at hx
  have ev : satO v = v := by unfold satO; rw [if_neg (by omega)]
  unfold facO slotOf
  by_cases e : x.f1 = 1
  · rw [if_pos e, if_pos e]
    unfold facN
    rw [if_pos rfl]
    show v = satO (powN v 1)
    rw [powN, powN, Int.one_mul, ev]
  · rw [if_neg e, if_neg e]
    by_cases e2 : x.f1 = 2
    · rw [if_pos e2, if_pos e2]
      unfold facN
      rw [if_pos rfl]
      exact powO_sat h h2 _
    · rw [if_neg e2, if_neg e2]
      unfold facN
      by_cases e3 : (0 : Int) = bl
      · rw [if_pos e3]
        subst e3
        show upO v 1 = satO (powN v 0)
        rw [upO_sat h h2, upN, upN, Int.zero_add]
      · rw [if_neg e3]
        exact upO_sat h h2 _
def prodN (v : Int) (sl : List S62) (n : Int) : Int := sl.foldl (fun n s => n * facN v s) n
theorem prodN_mul (v : Int) : ∀ (sl : List S62) (n : Int), prodN v sl n = n * prodN v sl 1
  | [], n => by simp [prodN]
  | s :: r, n => by
    show prodN v r (n * facN v s) = n * prodN v r (1 * facN v s)
    rw [prodN_mul v r (n * facN v s), prodN_mul v r (1 * facN v s), Int.one_mul, Int.mul_assoc]
theorem fold_sat {v bl : Int} (h : 1 ≤ v) (h2 : v ≤ 1099511627777) (hb : 0 ≤ bl) : ∀ (vars : List S48) (n : Int), (∀ x ∈ vars, okV x = true) → 1 ≤ n → vars.foldl (stepO v bl) (satO n) = satO (prodN v (vars.map (slotOf bl)) n)
  | [], n, _, _ => rfl
  | x :: r, n, hx, hn => by
    have hx0 := hx x List.mem_cons_self
    have hp := facN_pos h (slotOf bl x)
    have h3 : 1 * 1 ≤ n * facN v (slotOf bl x) := Int.mul_le_mul hn hp (by decide) (by omega)
    rw [List.foldl_cons, stepO, timesO, facO_sat h h2 hb hx0, sat_mul hn hp, fold_sat h h2 hb r _ (fun y hy => hx y (List.mem_cons_of_mem _ hy)) (by omega)]
    rfl
theorem cntO_sat {vars : List S48} {bv bl bi : Int} (h : validB vars bv bl bi = true) : cntO vars bv bl bi = satO ((allO vars bv bl bi).length : Int) := by
  obtain ⟨h1, h2, h3, h4, h5⟩ := valid_box h
  have hv1 : (1 : Int) ≤ 2 * bv + 1 := by omega
  have hv2 : 2 * bv + 1 ≤ (1099511627777 : Int) := by omega
  unfold cntO
  rw [(allO_perm h).length_eq, length_boxF h2.1, upO_sat hv1 hv2, fold_sat hv1 hv2 h3.1 vars _ h5 (upN_pos hv1 _)]
  · congr 1
    show _ = prodN (2 * bv + 1) (slotsOf vars bl bi) 1
    unfold slotsOf prodN
    rw [List.foldl_append, List.foldl_cons, List.foldl_nil]
    have e := prodN_mul (2 * bv + 1) (vars.map (slotOf bl)) (upN (2 * bv + 1) (bi.toNat + 1))
    unfold prodN at e
    rw [e, Int.mul_comm]
    congr 1
    unfold facN
    by_cases e0 : (0 : Int) = bi
    · subst e0
      rw [if_pos rfl]
      show upN (2 * bv + 1) 1 = powN (2 * bv + 1) 0
      rw [upN, upN, Int.zero_add]
    · rw [if_neg e0]
  · intro s hs
    have hok := slots_ok h s hs
    refine ⟨hok.2.2.1, ?_⟩
    unfold slotsOf at hs
    rcases List.mem_append.1 hs with hs | hs
    · obtain ⟨v, hv, rfl⟩ := List.mem_map.1 hs
      unfold slotOf
      split
      · exact .inl rfl
      · split
        · exact .inl rfl
        · exact .inr rfl
    · rw [List.mem_singleton.1 hs]
      exact .inr rfl
theorem reftimes_f {a b : Int} (h0 : 1 ≤ a) (h1 : a ≤ 1099511627777) (h2 : 1 ≤ b) (h3 : b ≤ 1099511627777) : backstepref12_times.f a b = some (timesO a b) := by
  have hq0 : 0 ≤ (1099511627776 : Int) / a := Int.ediv_nonneg (by decide) (by omega)
  have hq1 : (1099511627776 : Int) / a ≤ 1099511627776 := Int.ediv_le_self _ (by decide)
  unfold backstepref12_times.f
  rw [if_neg (by omega), wrap64_of' (n := (1099511627776 : Int) / a) (by omega) (by omega)]
  by_cases h : b > 1099511627776 / a
  · rw [if_pos h]
    have h4 : (1099511627776 : Int) < (1099511627776 / a + 1) * a := Int.lt_ediv_add_one_mul_self _ (by omega)
    have h5 : (1099511627776 / a + 1) * a ≤ b * a := Int.mul_le_mul_of_nonneg_right (by omega) (by omega)
    rw [Int.mul_comm b] at h5
    unfold timesO satO
    by_cases h6 : 1099511627777 < a * b
    · rw [if_pos h6]
    · rw [if_neg h6]
      congr 1; omega
  · rw [if_neg h]
    have h4 : b * a ≤ 1099511627776 / a * a := Int.mul_le_mul_of_nonneg_right (by omega) (by omega)
    have h5 : 1099511627776 / a * a ≤ 1099511627776 := Int.ediv_mul_le _ (by omega)
    have h6 : 0 ≤ a * b := Int.mul_nonneg (by omega) (by omega)
    rw [Int.mul_comm b] at h4
    rw [wrap64_of' (n := a * b) (by omega) (by omega)]
    unfold timesO satO
    rw [if_neg (by omega)]
theorem refpower_l0 {v : Int} (h : 1 ≤ v) (h2 : v ≤ 1099511627777) (n : Nat) (hn : n ≤ 100000) : ∀ (m j : Nat), j + m = n → ∃ k, backstepref12_power.l0 k v (n : Int) (powO v j) (j : Int) = some (powO v n)
  | 0, j, hj => ⟨1, by
    unfold backstepref12_power.l0
    rw [if_neg (by omega), show j = n by omega]⟩
  | m + 1, j, hj => by
    obtain ⟨k, hk⟩ := refpower_l0 h h2 n hn m (j + 1) (by omega)
    have hp := powO_ok h j
    refine ⟨k + 1, ?_⟩
    unfold backstepref12_power.l0
    rw [if_pos (by omega), reftimes_f hp.1 hp.2 h h2, wrap64_of' (by omega) (by omega), cast_succ]
    simpa [powO] using hk
theorem refpower_f {v : Int} (h : 1 ≤ v) (h2 : v ≤ 1099511627777) (n : Nat) (hn : n ≤ 100000) : ∃ k, backstepref12_power.f k v (n : Int) = some (powO v n) := by
  obtain ⟨k, hk⟩ := refpower_l0 h h2 n hn n 0 (by omega)
  exact ⟨k, hk⟩
theorem up_power {a b r : Int} {k : Nat} (h : backstepref12_power.f k a b = some r) : ∀ d, backstepref12_power.f (k + d) a b = some r
  | 0 => h
  | d + 1 => backstepref12_power.mono _ _ _ _ (up_power h d)
theorem up_upTo_l {a b c d r : Int} {k : Nat} (h : backstepref12_upTo.l0 k a b c d = some r) : ∀ e, backstepref12_upTo.l0 (k + e) a b c d = some r
  | 0 => h
  | e + 1 => (backstepref12_upTo.mono_l _) _ _ _ _ _ (up_upTo_l h e)
theorem upO_stuck {v : Int} (h : 1 ≤ v) {j : Nat} (hj : 1099511627777 ≤ upO v j) : ∀ m, upO v (j + m) = 1099511627777
  | 0 => by have := upO_ok h j; simp only [Nat.add_zero]; omega
  | m + 1 => by
    have ih := upO_stuck h hj m
    have hp := powO_ok h (j + m)
    show satO (upO v (j + m) + powO v (j + m)) = _
    rw [ih]
    unfold satO
    rw [if_pos (by omega)]
theorem refupTo_l0 {v : Int} (h : 1 ≤ v) (h2 : v ≤ 1099511627777) (n : Nat) (hn : n ≤ 100000) : ∀ (m j : Nat), j + m = n + 1 → upO v j ≤ 1099511627776 → ∃ k, backstepref12_upTo.l0 k v (n : Int) (upO v j) (j : Int) = some (upO v (n + 1))
  | 0, j, hj, _ => ⟨1, by
    unfold backstepref12_upTo.l0
    rw [if_neg (by omega), show j = n + 1 by omega]⟩
  | m + 1, j, hj, hb => by
    have hp := powO_ok h j
    have hu := upO_ok h j
    obtain ⟨k1, hk1⟩ := refpower_f h h2 j (by omega)
    have e : upO v (j + 1) = satO (upO v j + powO v j) := rfl
    by_cases hg : upO v j + powO v j > 1099511627776
    · refine ⟨k1 + 1, ?_⟩
      unfold backstepref12_upTo.l0
      rw [if_pos (by omega), hk1]
      simp only [Option.bind_some]
      rw [wrap64_of' (n := upO v j + powO v j) (by omega) (by omega), if_pos hg]
      have := upO_stuck h (j := j + 1) (by rw [e]; unfold satO; split <;> omega) m
      rw [show j + 1 + m = n + 1 by omega] at this
      rw [this]
    · have e2 : upO v (j + 1) = upO v j + powO v j := by rw [e]; unfold satO; rw [if_neg (by omega)]
      obtain ⟨k, hk⟩ := refupTo_l0 h h2 n hn m (j + 1) (by omega) (by omega)
      refine ⟨k1 + k + 1, ?_⟩
      unfold backstepref12_upTo.l0
      rw [if_pos (by omega), up_power hk1 k]
      simp only [Option.bind_some]
      rw [wrap64_of' (n := upO v j + powO v j) (by omega) (by omega), if_neg hg, ← e2, wrap64_of' (by omega) (by omega), cast_succ, Nat.add_comm]
      exact up_upTo_l hk k1
theorem refupTo_f {v : Int} (h : 1 ≤ v) (h2 : v ≤ 1099511627777) (n : Nat) (hn : n ≤ 100000) : ∃ k, backstepref12_upTo.f k v (n : Int) = some (upO v (n + 1)) := by
  obtain ⟨k, hk⟩ := refupTo_l0 h h2 n hn (n + 1) 0 (by omega) (by simp [upO])
  exact ⟨k, hk⟩
theorem up_upTo {a b r : Int} {k : Nat} (h : backstepref12_upTo.f k a b = some r) : ∀ d, backstepref12_upTo.f (k + d) a b = some r
  | 0 => h
  | d + 1 => backstepref12_upTo.mono _ _ _ _ (up_upTo h d)
theorem up_count_l {vars : List S48} {b c d e r : Int} {k : Nat} (h : backstepref12_Count.l0 k vars b c d e = some r) : ∀ d', backstepref12_Count.l0 (k + d') vars b c d e = some r
  | 0 => h
  | d + 1 => (backstepref12_Count.mono_l _) _ _ _ _ _ _ (up_count_l h d)
theorem refcount_l0 {vars : List S48} {bv bl bi : Int} (h : validB vars bv bl bi = true) : ∀ (m j : Nat) (n : Int), j + m = vars.length → 1 ≤ n → n ≤ 1099511627777 → ∃ k, backstepref12_Count.l0 k vars bv bl n (j : Int) = some ((vars.drop j).foldl (stepO (2 * bv + 1) bl) n)
  | 0, j, n, hj, _, _ => ⟨1, by
    unfold backstepref12_Count.l0
    rw [if_neg (by omega), List.drop_eq_nil_of_le (by omega)]; rfl⟩
  | m + 1, j, n, hj, hn, hn2 => by
    obtain ⟨h1, h2, h3, h4, h5⟩ := valid_box h
    have hv1 : (1 : Int) ≤ 2 * bv + 1 := by omega
    have hv2 : 2 * bv + 1 ≤ (1099511627777 : Int) := by omega
    have hlt : j < vars.length := by omega
    have c1 : (j : Int) < (vars.length : Int) := by omega
    have c2 : 0 ≤ (j : Int) := by omega
    have hx : rd_T48 vars (j : Int) = vars[j] := by unfold rd_T48; simp [hlt]
    have hok := h5 _ (List.getElem_mem hlt)
    have hf := facO_ok (bl := bl) (x := vars[j]) hv1 hv2
    have hs : 1 ≤ stepO (2 * bv + 1) bl n vars[j] := by
      refine satO_ge ?_
      have : 1 * 1 ≤ n * facO (2 * bv + 1) bl vars[j] := Int.mul_le_mul hn hf.1 (by decide) (by omega)
      omega
    obtain ⟨k, hk⟩ := refcount_l0 h m (j + 1) (stepO (2 * bv + 1) bl n vars[j]) (by omega) hs (satO_le _)
    have ht := reftimes_f hn hn2 hf.1 hf.2
    have ew : wrap64 (wrap64 (2 * bv) + 1) = 2 * bv + 1 := by rw [wrap64_of' (n := 2 * bv) (by omega) (by omega), wrap64_of' (by omega) (by omega)]
    have ej : wrap64 ((j : Int) + 1) = ((j + 1 : Nat) : Int) := by rw [wrap64_of' (by omega) (by omega), cast_succ]
    unfold okV at hok
    simp only [Bool.and_eq_true, Bool.or_eq_true, decide_eq_true_eq] at hok
    rw [List.drop_eq_getElem_cons hlt, List.foldl_cons]
    by_cases e1 : vars[j].f1 = 1
    · refine ⟨k + 1, ?_⟩
      unfold backstepref12_Count.l0
      have ef : facO (2 * bv + 1) bl vars[j] = 2 * bv + 1 := by unfold facO; rw [if_pos e1]
      rw [ef] at ht
      rw [if_pos c1, if_pos c2, hx, if_pos e1, ew, ht, ej]
      simp only [stepO] at hk ⊢
      rw [ef] at hk ⊢
      exact hk
    · by_cases e2 : vars[j].f1 = 2
      · have ef : facO (2 * bv + 1) bl vars[j] = powO (2 * bv + 1) vars[j].f2.toNat := by unfold facO; rw [if_neg e1, if_pos e2]
        obtain ⟨k1, hk1⟩ := refpower_f hv1 hv2 vars[j].f2.toNat (by omega)
        rw [show ((vars[j].f2.toNat : Nat) : Int) = vars[j].f2 by omega] at hk1
        refine ⟨k1 + k + 1, ?_⟩
        unfold backstepref12_Count.l0
        rw [ef] at ht
        rw [if_pos c1, if_pos c2, hx, if_neg e1, if_pos e2, ew, up_power hk1 k, ej]
        simp only [Option.bind_some]
        rw [ht]
        simp only [stepO] at hk ⊢
        rw [ef] at hk ⊢
        rw [Nat.add_comm k1 k]
        exact up_count_l hk k1
      · have e3 : vars[j].f1 = 3 := by omega
        have ef : facO (2 * bv + 1) bl vars[j] = upO (2 * bv + 1) (bl.toNat + 1) := by unfold facO; rw [if_neg e1, if_neg e2]
        obtain ⟨k1, hk1⟩ := refupTo_f hv1 hv2 bl.toNat (by omega)
        rw [show ((bl.toNat : Nat) : Int) = bl by omega] at hk1
        refine ⟨k1 + k + 1, ?_⟩
        unfold backstepref12_Count.l0
        rw [ef] at ht
        rw [if_pos c1, if_pos c2, hx, if_neg e1, if_neg e2, if_pos e3, ew, up_upTo hk1 k, ej]
        simp only [Option.bind_some]
        rw [ht]
        simp only [stepO] at hk ⊢
        rw [ef] at hk ⊢
        rw [Nat.add_comm k1 k]
        exact up_count_l hk k1
theorem refcount_f {vars : List S48} {bv bl bi : Int} (h : validB vars bv bl bi = true) : ∃ k, backstepref12_Count.f k vars bv bl bi = some (cntO vars bv bl bi) := by
  obtain ⟨h1, h2, h3, h4, h5⟩ := valid_box h
  have hv1 : (1 : Int) ≤ 2 * bv + 1 := by omega
  have hv2 : 2 * bv + 1 ≤ (1099511627777 : Int) := by omega
  have ew : wrap64 (wrap64 (2 * bv) + 1) = 2 * bv + 1 := by rw [wrap64_of' (n := 2 * bv) (by omega) (by omega), wrap64_of' (by omega) (by omega)]
  obtain ⟨k1, hk1⟩ := refupTo_f hv1 hv2 bi.toNat (by omega)
  rw [show ((bi.toNat : Nat) : Int) = bi by omega] at hk1
  obtain ⟨k2, hk2⟩ := refcount_l0 h vars.length 0 (upO (2 * bv + 1) (bi.toNat + 1)) (by omega) (upO_pos hv1 _) (upO_ok hv1 _).2
  refine ⟨k1 + k2, ?_⟩
  unfold backstepref12_Count.f cntO
  rw [ew, up_upTo hk1 k2]
  simp only [Option.bind_some]
  rw [Nat.add_comm k1 k2]
  exact up_count_l hk2 k1
theorem refvalid_l0 (vars : List S48) (v l i : Int) (hl : vars.length ≤ 32) : ∀ (m j : Nat), j + m = vars.length → ∃ k, backstepref12_Valid.l0 k vars v l i (j : Int) = some ((vars.drop j).all okV && (okB v && okB l && okB i))
  | 0, j, hj => ⟨1, by
    unfold backstepref12_Valid.l0 okB
    rw [if_neg (by omega), List.drop_eq_nil_of_le (by omega)]
    show _ = some ((([] : List S48).all okV) && ((decide (0 ≤ v) && decide (v ≤ 1000)) && (decide (0 ≤ l) && decide (l ≤ 1000)) && (decide (0 ≤ i) && decide (i ≤ 1000))))
    have g : ∀ (a b : Int) (X : Option Bool) (y : Bool), X = some y → (if a ≥ b then X else some false) = some (decide (b ≤ a) && y) := fun a b X y h => by
      by_cases e : a ≥ b
      · rw [if_pos e, h, show decide (b ≤ a) = true from decide_eq_true e, Bool.true_and]
      · rw [if_neg e, show decide (b ≤ a) = false from decide_eq_false e, Bool.false_and]
    rw [g v 0 _ _ (g 1000 v _ _ (g l 0 _ _ (g 1000 l _ _ (g i 0 _ _ rfl))))]
    simp [Bool.and_assoc]⟩
  | m + 1, j, hj => by
    obtain ⟨k, hk⟩ := refvalid_l0 vars v l i hl m (j + 1) (by omega)
    have hlt : j < vars.length := by omega
    have hx : rd_T48 vars (j : Int) = vars[j] := by unfold rd_T48; simp [hlt]
    have ej : wrap64 ((j : Int) + 1) = ((j + 1 : Nat) : Int) := by rw [wrap64_of' (by omega) (by omega), cast_succ]
    refine ⟨k + 1, ?_⟩
    unfold backstepref12_Valid.l0
    rw [if_pos (by omega), if_pos (by omega), hx, ej, hk, List.drop_eq_getElem_cons hlt, List.all_cons]
    have key : ∀ (x : S48) (A B : Bool), (if x.f1 < 1 then some false else if x.f1 > 3 then some false else if x.f1 = 2 then (if x.f2 < 1 then some false else if x.f2 > 16 then some false else some (A && B)) else if x.f2 = 0 then some (A && B) else some false) = some ((okV x && A) && B) := by
      intro x A B
      have no : okV x = false → some false = some ((okV x && A) && B) := fun e => by rw [e]; rfl
      have ye : okV x = true → some (A && B) = some ((okV x && A) && B) := fun e => by rw [e, Bool.true_and]
      have hT : okV x = true ↔ ((x.f1 = 1 ∨ x.f1 = 3) ∧ x.f2 = 0) ∨ x.f1 = 2 ∧ 1 ≤ x.f2 ∧ x.f2 ≤ 16 := by unfold okV; simp
      have hF : okV x = false ↔ ¬ (((x.f1 = 1 ∨ x.f1 = 3) ∧ x.f2 = 0) ∨ x.f1 = 2 ∧ 1 ≤ x.f2 ∧ x.f2 ≤ 16) := by rw [← hT]; simp
      split
      · exact no (hF.2 (by omega))
      · split
        · exact no (hF.2 (by omega))
        · split
          · split
            · exact no (hF.2 (by omega))
            · split
              · exact no (hF.2 (by omega))
              · exact ye (hT.2 (by omega))
          · split
            · exact ye (hT.2 (by omega))
            · exact no (hF.2 (by omega))
    exact key _ _ _
theorem refvalid_f (vars : List S48) (v l i : Int) : ∃ k, backstepref12_Valid.f k vars v l i = some (validB vars v l i) := by
  by_cases h : vars.length ≤ 32
  · obtain ⟨k, hk⟩ := refvalid_l0 vars v l i h vars.length 0 (by omega)
    refine ⟨k, ?_⟩
    unfold backstepref12_Valid.f validB
    rw [if_neg (by omega)]
    rw [show (0 : Int) = ((0 : Nat) : Int) from rfl, hk]
    simp [h, Bool.and_comm]
  · refine ⟨0, ?_⟩
    unfold backstepref12_Valid.f validB
    rw [if_pos (by omega)]
    simp [h]
/-- Which boxes are small. -/
def smallB (vars : List S48) (v l i : Int) : Bool := decide (vars.length ≤ 6) && (validB vars v l i && decide ((allO vars v l i).length ≤ 500))
theorem up_refvalid {vars : List S48} {a b c : Int} {r : Bool} {k : Nat} (h : backstepref12_Valid.f k vars a b c = some r) : ∀ d, backstepref12_Valid.f (k + d) vars a b c = some r
  | 0 => h
  | d + 1 => backstepref12_Valid.mono _ _ _ _ _ _ (up_refvalid h d)
theorem up_refcount {vars : List S48} {a b c r : Int} {k : Nat} (h : backstepref12_Count.f k vars a b c = some r) : ∀ d, backstepref12_Count.f (k + d) vars a b c = some r
  | 0 => h
  | d + 1 => backstepref12_Count.mono _ _ _ _ _ _ (up_refcount h d)
theorem small_f (vars : List S48) (v l i : Int) : ∃ k, backsteplaw12_small.f k vars v l i = some (smallB vars v l i) := by
  by_cases h : vars.length ≤ 6
  · obtain ⟨k1, hk1⟩ := refvalid_f vars v l i
    cases hv : validB vars v l i with
    | false =>
      refine ⟨k1, ?_⟩
      unfold backsteplaw12_small.f smallB
      rw [if_pos (by omega), hk1, hv]
      simp
    | true =>
      obtain ⟨k2, hk2⟩ := refcount_f hv
      refine ⟨k1 + k2, ?_⟩
      unfold backsteplaw12_small.f smallB
      rw [if_pos (by omega), up_refvalid hk1 k2, hv, Nat.add_comm k1 k2, up_refcount hk2 k1, cntO_sat hv]
      simp only [Option.bind_some, if_true, h, decide_true, Bool.true_and]
      congr 1
      apply decide_eq_decide.2
      unfold satO
      split <;> omega
  · refine ⟨0, ?_⟩
    unfold backsteplaw12_small.f smallB
    rw [if_neg (by omega)]
    simp [h]
theorem small_valid {vars : List S48} {v l i : Int} (h : smallB vars v l i = true) : vars.length ≤ 6 ∧ validB vars v l i = true ∧ (allO vars v l i).length ≤ 500 ∧ cntN vars v l i = ((allO vars v l i).length : Int) ∧ cntE vars v l i = 0 := by
  unfold smallB at h
  simp only [Bool.and_eq_true, decide_eq_true_eq] at h
  obtain ⟨h1, h2, h3⟩ := h
  have e : cntO vars v l i = ((allO vars v l i).length : Int) := by rw [cntO_sat h2]; unfold satO; rw [if_neg (by omega)]
  refine ⟨h1, h2, h3, ?_, ?_⟩
  · unfold cntN
    rw [if_pos h2, if_neg (by omega), e]
  · unfold cntE
    rw [if_pos h2, if_neg (by omega)]
end Go.Proofs.Ytgcdeablfoomhaa.PAll
end
section
set_option linter.unusedVariables false
set_option linter.unusedSimpArgs false
namespace Go.Proofs.Ytgcdeablfoomhaa.PAll
open Go.RowKit Go.Proofs.YtgcdeablfoomhaaW.PrintWords Go.Proofs.YtgcdeablfoomhaaW.PrintLast Go.Proofs.YtgcdeablfoomhaaW.PrintMore
abbrev St := List (List Int) × List Int × List Int
/-- A state as_ it is handed over: cells and input. -/
def stO (x : List (List Int)) : St := (x.dropLast, x.getLastD [], [])
def kS : Kd St := Kd.pair (Kd.slice 33 (Kd.slice 3 (Kd.int .i64))) (Kd.pair (Kd.slice 3 (Kd.int .i64)) (Kd.slice 3 (Kd.int .i64)))
theorem info35 : (Try.prog.info? 35).map (fun i => (i.zero, i.size, i.bytes)) = some (some (.agg #[nil3, nil3, nil3]), 3, 72) := by kernel_rfl
def rd_S (xs : List St) (i : Int) : St := xs.getD i.toNat ([], [], [])
theorem kS_open {w : World} {x : St} {cs : List Value} (h : kS.K w x cs) : ∃ A0 c0 A1 c1 A2 c2, cs = [.slice A0 x.1.length c0, .slice A1 x.2.1.length c1, .slice A2 x.2.2.length c2] ∧ SR w A0 c0 x.1 A1 c1 x.2.1 A2 c2 x.2.2 := by
  obtain ⟨_, _, rfl, ⟨A0, c0, rfl, h0, g0⟩, ⟨_, _, rfl, ⟨A1, c1, rfl, h1, g1⟩, ⟨A2, c2, rfl, h2, g2⟩⟩⟩ := h
  exact ⟨A0, c0, A1, c1, A2, c2, rfl, g0, h0, g1, h1, g2, h2⟩
theorem kS_mk {w : World} {base : Nat} {ok : Nat → Prop} {x : St} {v0 v1 v2 : Value} (h0 : Kd.R (Kd.slice 3 (Kd.int .i64)) 33 w base ok v0 x.1) (h1 : Kd.R (Kd.int .i64) 3 w base ok v1 x.2.1) (h2 : Kd.R (Kd.int .i64) 3 w base ok v2 x.2.2) : kS.M w base ok x [v0, v1, v2] :=
  ⟨[v0], [v1, v2], rfl, ⟨v0, rfl, h0⟩, ⟨[v1], [v2], rfl, ⟨v1, rfl, h1⟩, ⟨v2, rfl, h2⟩⟩⟩
theorem at_S {w : World} {A : Option Addr} {n : Nat} {xs : List St} (h : Kd.C kS w A n xs) (i : Int) (h0 : 0 ≤ i) (h1 : i < n) : ∃ ad A0 c0 A1 c1 A2 c2, A = some ad ∧ w.cell? (ad.add (i.toNat * 3)) = some (.slice A0 (rd_S xs i).1.length c0) ∧
    w.cell? ⟨(ad.add (i.toNat * 3)).block, (ad.add (i.toNat * 3)).off + 1, none⟩ = some (.slice A1 (rd_S xs i).2.1.length c1) ∧ w.cell? ⟨(ad.add (i.toNat * 3)).block, (ad.add (i.toNat * 3)).off + 2, none⟩ = some (.slice A2 (rd_S xs i).2.2.length c2) ∧
    SR w A0 c0 (rd_S xs i).1 A1 c1 (rd_S xs i).2.1 A2 c2 (rd_S xs i).2.2 := by
  obtain ⟨ad, c, e, _, hK, hc0⟩ := Kd.C_get h (([], [], []) : St) i h0 h1
  have hc : ∀ j u, c[j]? = some u → w.cell? (ad.add (i.toNat * 3 + j)) = some u := hc0
  obtain ⟨A0, c0, A1, c1, A2, c2, rfl, hs⟩ := kS_open hK
  exact ⟨ad, A0, c0, A1, c1, A2, c2, e, hc 0 _ rfl, by rw [← add_field _ _ 1 (by omega)]; exact hc 1 _ rfl, by rw [← add_field _ _ 2 (by omega)]; exact hc 2 _ rfl, hs⟩
def grS (L : List St) (k : Nat) (s : St) : Nat := if L[k]? = some s then k + 1 else k
def gr (L P : List St) : Nat := P.foldl (grS L) 0
theorem inS_len {rk : Int} : ∀ {sl : List S62} {q : List (List Int)}, inS rk sl q → q.length = sl.length
  | [], q, h => by rw [h]; rfl
  | s :: r, q, h => by
    obtain ⟨l, q', rfl, _, _, _, h4⟩ := h
    rw [List.length_cons, List.length_cons, inS_len h4]
theorem inS_lens {rk : Int} : ∀ {sl : List S62} {q : List (List Int)}, (∀ s ∈ sl, s.f1 ≤ 1000) → inS rk sl q → ∀ l ∈ q, l.length ≤ 1000 ∧ okL rk l
  | [], q, _, h, l, hl => by rw [h] at hl; cases hl
  | s :: r, q, hs, h, l, hl => by
    obtain ⟨l', q', rfl, _, h2, h3, h4⟩ := h
    rcases List.mem_cons.1 hl with rfl | hl
    · exact ⟨by have := hs s List.mem_cons_self; omega, h3⟩
    · exact inS_lens (fun x hx => hs x (List.mem_cons_of_mem _ hx)) h4 l hl
theorem allO_ok {vars : List S48} {bv bl bi : Int} (h : validB vars bv bl bi = true) {x : List (List Int)} (hx : x ∈ allO vars bv bl bi) : x.length = vars.length + 1 ∧ ∀ l ∈ x, l.length ≤ 1000 ∧ okL (2 * bv) l := by
  have h1 := (mem_allO h).1 hx
  refine ⟨?_, inS_lens (fun s hs => (slots_ok h s hs).2.2.2) h1⟩
  rw [inS_len h1]
  unfold slotsOf; simp
theorem st_split {x : List (List Int)} {n : Nat} (h : x.length = n + 1) : x = (stO x).1 ++ [(stO x).2.1] := by
  have hne : x ≠ [] := fun e => by rw [e] at h; simp at h
  unfold stO
  have : x.getLastD [] = x.getLast hne := by rw [List.getLastD_eq_getLast?, List.getLast?_eq_some_getLast hne]; rfl
  show x = x.dropLast ++ [x.getLastD []]
  rw [this]
  exact (List.dropLast_concat_getLast hne).symm
theorem sclone_f {l : List Int} (h : l.length < 1099511627776) : slices_Clone_int_int.f l = some l := by unfold slices_Clone_int_int.f; rw [if_pos h]
theorem clone_l0 (l : List (List Int)) (hl : l.length ≤ 1000) (hr : ∀ x ∈ l, x.length ≤ 5000) (p q : List Int) : ∀ (r i : Nat) (acc : List (List Int)), r + i = l.length → acc.length = i → state_Clone.l0 (r + 1) l (l.length : Int) (i : Int) acc p q = some (acc ++ l.drop i, p, q)
  | 0, i, acc, h, ha => by
    unfold state_Clone.l0
    rw [if_neg (by omega), List.drop_eq_nil_of_le (by omega)]; simp
  | r + 1, i, acc, h, ha => by
    have hi : i < l.length := by omega
    have ed : l.drop i = l[i] :: l.drop (i + 1) := List.drop_eq_getElem_cons hi
    have hm := hr l[i] (List.getElem_mem hi)
    have ih := clone_l0 l hl hr p q r (i + 1) (acc ++ [l[i]]) (by omega) (by simp; omega)
    have hs : slices_Clone_int_int.f l[i] = some l[i] := sclone_f (by omega)
    have hd : rd_L7 l (i : Int) = l[i] := by unfold rd_L7; simp [hi]
    rw [ed]
    unfold state_Clone.l0
    rw [if_pos (by omega), if_pos (by omega), if_pos (by omega), hd, hs, Option.bind_some, if_pos (by omega), wrap64_of' (by omega) (by omega), cast_succ, ih, List.append_assoc]; rfl
theorem clone_f (l : List (List Int)) (hl : l.length ≤ 1000) (hr : ∀ x ∈ l, x.length ≤ 5000) (p q : List Int) (hp : p.length ≤ 5000) (hq : q.length ≤ 5000) : state_Clone.f (l.length + 1) l p q = some (l, p, q) := by
  unfold state_Clone.f
  rw [sclone_f (l := p) (by omega), Option.bind_some, sclone_f (l := q) (by omega), Option.bind_some]
  exact clone_l0 l hl hr p q l.length 0 [] (by omega) rfl
/-- A clone of a state of a box: it reads alike, its memory is new. -/
theorem clone_calls {w : World} {A0 A1 A2 : Option Addr} {c0 c1 c2 : Nat} {s : St} (h : SR w A0 c0 s.1 A1 c1 s.2.1 A2 c2 s.2.2) (h0 : s.1.length ≤ 1000) (h1 : ∀ x ∈ s.1, x.length ≤ 1000) (h2 : s.2.1.length ≤ 1000) (h3 : s.2.2.length ≤ 1000) :
    Calls Try.prog 22 #[.agg #[.slice A0 s.1.length c0, .slice A1 s.2.1.length c1, .slice A2 s.2.2.length c2]] w fun e w' => ∃ v0 v1 v2 : Value, e = .returned (.agg #[v0, v1, v2]) ∧ kS.M w' w.heap.size (fun k => w.heap.size ≤ k) s [v0, v1, v2] ∧ Below w.heap.size w w' := by
  refine (state_Clone.calls (s.1.length + 1) A0 c0 s.1 A1 c1 s.2.1 A2 c2 s.2.2 s.1 s.2.1 s.2.2 w h.r0 h.h0 h.r1 h.h1 h.r2 h.h2 (clone_f s.1 h0 (fun x hx => by have := h1 x hx; omega) s.2.1 s.2.2 (by omega) (by omega))).mono ?_
  rintro e w' ⟨v0, v1, v2, rfl, g0, g1, g2, hb⟩
  have gg : ∀ {α : Type} {d : Kd α} {e : Nat} {ok : Nat → Prop} {v : Value} {xs : List α}, d.R e w' w.heap.size ok v xs → d.R e w' w.heap.size (fun k => w.heap.size ≤ k) v xs := fun h => Kd.R_mono (Kd.R_bound h) fun k hk => hk.2.1
  exact ⟨v0, v1, v2, rfl, kS_mk (gg (Kd.S_R g0)) (gg g1) (gg g2), hb⟩
end Go.Proofs.Ytgcdeablfoomhaa.PAll
end
section
set_option linter.unusedVariables false
set_option linter.unusedSimpArgs false
namespace Go.Proofs.Ytgcdeablfoomhaa.PAll
open Go.RowKit Go.Proofs.YtgcdeablfoomhaaW.PrintWords Go.Proofs.YtgcdeablfoomhaaW.PrintLast Go.Proofs.YtgcdeablfoomhaaW.PrintMore
attribute [local go_sem] Oper.semAt_some
theorem _root_.Go.RowKit.Below.cell' {w w' : World} {p : Addr} {v : Value} (h : Below w.heap.size w w') (hc : w.cell? p = some v) : w'.cell? p = some v := (h.cell (World.block_lt_of_cell? _ _ hc)).trans hc
theorem kO_below {A B : World} (h : Below A.heap.size A B) : KeepsOthers A B := (Mods.of_below (S := fun _ => False) h (fun _ h => h.elim)).others
theorem kS_below {T : Nat → Prop} {A B : World} (h : Below A.heap.size A B) (hT : ∀ k, T k → k < A.heap.size) : KeepS T A B := ⟨h.size, fun k hk => h.block k (hT k hk)⟩
/-- A boxed row of states of the caller's own. -/
def RowI (W : World) (B : Nat) (T : Nat → Prop) (xs : List St) (A : World) : Prop := ∃ v, OwnB B (.cells #[v] 27) T A ∧ Kd.R kS 35 A W.heap.size (fun k => ¬ T k) v xs
theorem RowI.abide {W : World} {B : Nat} {T T' : Nat → Prop} {xs : List St} {A A' : World} (h : RowI W B T xs A) (hs : StepT T A A') (hg : Grows T T' A) : RowI W B T' xs A' := by
  obtain ⟨v, h1, h2⟩ := h
  exact ⟨v, OwnB.abide (β := Unit) B (fun _ => _) T T' () A A' h1 hs hg, ownR_abide h2 hs hg⟩
theorem RowI.put {W : World} {B : Nat} {T : Nat → Prop} {xs : List St} {A : World} (h : RowI W B T xs A) {l : Nat} {o : Obj} (o' : Obj) (hl : A.heap[l]? = some o) (ho : o.isCells = false) : RowI W B T xs (A.putObj l o') := by
  obtain ⟨v, h1, h2⟩ := h
  exact ⟨v, h1.put o' hl ho, R_put h2 o' hl ho⟩
/-- What EnumerateNested keeps over its first range. -/
structure NeI (W : World) (Bl Bb Bc : Nat) (b c : Array Value) (T : Nat → Prop) (pre : List (List (List Int))) (A : World) : Prop where
  o : OutT W T A
  g : RowI W Bl T (pre.map stO) A
  b : OwnB Bb (.cells b 24) T A
  c : OwnB Bc (.cells c 24) T A
theorem NeI.abide (W : World) (Bl Bb Bc : Nat) (b c : Array Value) : Abide (NeI W Bl Bb Bc b c) := fun T T' s A B h hs hg =>
  ⟨OutT.abide (β := Unit) W T T' () A B h.o hs hg, h.g.abide hs hg, OwnB.abide (β := Unit) Bb (fun _ => _) T T' () A B h.b hs hg, OwnB.abide (β := Unit) Bc (fun _ => _) T T' () A B h.c hs hg⟩
theorem NeI.put {W : World} {Bl Bb Bc : Nat} {b c : Array Value} {T : Nat → Prop} {pre : List (List (List Int))} {A : World} (h : NeI W Bl Bb Bc b c T pre A) {l : Nat} {o : Obj} (o' : Obj) (hlN : W.heap.size ≤ l) (hl : A.heap[l]? = some o) (ho : o.isCells = false) : NeI W Bl Bb Bc b c T pre (A.putObj l o') :=
  ⟨h.o.put o' hlN, h.g.put o' hl ho, h.b.put o' hl ho, h.c.put o' hl ho⟩
theorem rowB_abide {α : Type} {d : Kd α} {e base Bk : Nat} {v : Value} {xs : List α} {T T' : Nat → Prop} {A B : World} (h : d.R e A base (fun k => ¬ T k ∧ k < Bk) v xs) (hs : StepT T A B) (hg : Grows T T' A) : d.R e B base (fun k => ¬ T' k ∧ k < Bk) v xs := by
  refine Kd.R_mono (Kd.R_step (Kd.R_bound h) (fun k hk hlt => hs.block k hlt hk.1.1)) (fun k hk => ⟨fun ht => ?_, hk.1.2⟩)
  rcases hg.2 k ht with h1 | h1
  · exact hk.1.1 h1
  · have := hk.2.2.1; omega
/-- .. over its second: the row is read, a number is counted. -/
structure NeJ (W : World) (Bl Bk D : Nat) (v : Value) (L : List St) (T : Nat → Prop) (pre : List (List (List Int))) (A : World) : Prop where
  o : OutT W T A
  l : OwnB Bl (.cells #[v] 27) T A
  r : Kd.R kS 35 A W.heap.size (fun k => ¬ T k ∧ k < Bk) v L
  k : OwnB Bk (.cells #[.int .i64 ((gr L (pre.map stO) : Nat) : Int)] 3) T A
  d : OwnB D (.deferred (some [])) T A
theorem NeJ.abide (W : World) (Bl Bk D : Nat) (v : Value) (L : List St) : Abide (NeJ W Bl Bk D v L) := fun T T' s A B h hs hg =>
  ⟨OutT.abide (β := Unit) W T T' () A B h.o hs hg, OwnB.abide (β := Unit) Bl (fun _ => _) T T' () A B h.l hs hg, rowB_abide h.r hs hg, OwnB.abide (β := Unit) Bk (fun _ => _) T T' () A B h.k hs hg, OwnB.abide (β := Unit) D (fun _ => _) T T' () A B h.d hs hg⟩
theorem NeJ.put {W : World} {Bl Bk D : Nat} {v : Value} {L : List St} {T : Nat → Prop} {pre : List (List (List Int))} {A : World} (h : NeJ W Bl Bk D v L T pre A) {l : Nat} {o : Obj} (o' : Obj) (hlN : W.heap.size ≤ l) (hlD : D < l) (hl : A.heap[l]? = some o) (ho : o.isCells = false) : NeJ W Bl Bk D v L T pre (A.putObj l o') :=
  ⟨h.o.put o' hlN, h.l.put o' hl ho, R_put h.r o' hl ho, h.k.put o' hl ho, ⟨h.d.1, (World.putObj_heap_other (by omega)).trans h.d.2⟩⟩
theorem NeJ.same {W : World} {Bl Bk D : Nat} {v : Value} {L : List St} {T : Nat → Prop} {pre : List (List (List Int))} {A : World} (h : NeJ W Bl Bk D v L T pre A) (x : List (List Int)) (hx : gr L ((pre ++ [x]).map stO) = gr L (pre.map stO)) : NeJ W Bl Bk D v L T (pre ++ [x]) A :=
  ⟨h.o, h.l, h.r, by rw [hx]; exact h.k, h.d⟩
theorem two_new (W : World) (a b : Obj) : ((W.alloc a).alloc b).heap[W.heap.size]? = some a ∧ ((W.alloc a).alloc b).heap[W.heap.size + 1]? = some b ∧ Below W.heap.size W ((W.alloc a).alloc b) ∧ ((W.alloc a).alloc b).heap.size = W.heap.size + 2 := by
  refine ⟨blk_alloc (World.alloc_heap_new W _) _, ?_, ((Below.refl _ _).alloc (Nat.le_refl _) _).alloc (by simp) _, by simp⟩
  have := World.alloc_heap_new (W.alloc a) b
  rwa [World.size_alloc] at this
end Go.Proofs.Ytgcdeablfoomhaa.PAll
end
section
set_option linter.unusedVariables false
set_option linter.unusedSimpArgs false
namespace Go.Proofs.Ytgcdeablfoomhaa.PAll
open Go.RowKit Go.Proofs.YtgcdeablfoomhaaW.PrintWords Go.Proofs.YtgcdeablfoomhaaW.PrintLast Go.Proofs.YtgcdeablfoomhaaW.PrintMore
abbrev Hd := Option Addr × Nat × Nat
def hdV (h : Hd) : Value := .slice h.1 h.2.1 h.2.2
def kH : Kd Hd := Kd.scalar hdV (fun _ => rfl)
def rd_H (hs : List Hd) (i : Int) : Hd := hs.getD i.toNat (none, 0, 0)
theorem at_H {w : World} {A : Option Addr} {n : Nat} {hs : List Hd} (h : Kd.C kH w A n hs) (i : Int) (h0 : 0 ≤ i) (h1 : i < n) : ∃ ad, A = some ad ∧ w.cell? (ad.add i.toNat) = some (hdV (rd_H hs i)) := by
  obtain ⟨ad, c, e, _, hK, hc0⟩ := Kd.C_get h ((none, 0, 0) : Hd) i h0 h1
  have hc : ∀ j u, c[j]? = some u → w.cell? (ad.add (i.toNat * 1 + j)) = some u := hc0
  have hK' : c = [hdV (rd_H hs i)] := hK
  subst hK'
  have := hc 0 _ rfl
  rw [Nat.mul_one, Nat.add_zero] at this
  exact ⟨ad, e, this⟩
theorem kH_nil {W : World} {g base : Nat} (h : W.heap[g]? = some (.cells #[] 33 (0, 0))) (hg : base ≤ g) : Kd.R kH 33 W base (fun _ => True) (.slice (some ⟨g, 0, none⟩) 0 0) [] :=
  ⟨fun _ _ => trivial, [], ⟨rfl, .inr ⟨g, 0, #[], rfl, hg, h, Nat.le_refl _, by decide, rfl, rfl⟩⟩, ⟨rfl, fun j p hj => by simp at hj⟩⟩
theorem kH_one {W : World} {g : Nat} {h : Hd} (hh : W.heap[g]? = some (.cells #[hdV h] 33 (0, 0))) : Kd.C kH W (some ⟨g, 0, none⟩) 1 [h] := by
  refine ⟨rfl, by decide, fun _ => ⟨_, rfl, fun j p hj => ?_⟩⟩
  match j, hj with
  | 0, hj =>
    obtain rfl : h = p := by simpa using hj
    refine ⟨[hdV h], rfl, rfl, fun i u hu => ?_⟩
    match i, hu with
    | 0, hu => obtain rfl : _ = u := by simpa using hu
               exact cell_of_heap hh rfl
theorem heads {w : World} {A : Option Addr} {xs : List (List Int)} (h : Kd.C (Kd.slice 3 (Kd.int .i64)) w A xs.length xs) : ∃ hs : List Hd, hs.length = xs.length ∧ Kd.C kH w A xs.length hs ∧
    ∀ i (h1 : i < hs.length) (h2 : i < xs.length), hs[i].2.1 = xs[i].length ∧ xs[i].length ≤ hs[i].2.2 ∧ Kd.C (Kd.int .i64) w hs[i].1 xs[i].length xs[i] := by
  have each : ∀ i : Fin xs.length, ∃ hd : Hd, hd.2.1 = xs[i.1].length ∧ xs[i.1].length ≤ hd.2.2 ∧ Kd.C (Kd.int .i64) w hd.1 xs[i.1].length xs[i.1] ∧ ∀ ad, A = some ad → w.cell? (ad.add i.1) = some (hdV hd) := by
    intro i
    obtain ⟨ad, A0, c0, e, hc, hl, hr⟩ := at_L4 h (i.1 : Int) (by omega) (by have := i.2; omega)
    have hx : rd_L4 xs (i.1 : Int) = xs[i.1] := by unfold rd_L4; simp [i.2]
    rw [hx] at hc hl hr
    refine ⟨(A0, xs[i.1].length, c0), rfl, hl, hr, fun ad' e' => ?_⟩
    rw [e] at e'
    obtain rfl := Option.some.inj e'
    rw [Int.toNat_natCast] at hc
    exact hc
  obtain ⟨f, hf⟩ := Classical.axiomOfChoice each
  have hL : ((List.finRange xs.length).map f).length = xs.length := by simp
  refine ⟨(List.finRange xs.length).map f, hL, ⟨by rw [hL], h.2.1, fun hn => ?_⟩, fun i h1 h2 => ?_⟩
  · obtain ⟨ad, hA, _⟩ := h.2.2 hn
    refine ⟨ad, hA, fun j p hj => ?_⟩
    have hjl : j < xs.length := by
      have := (List.getElem?_eq_some_iff.1 hj).1
      rwa [hL] at this
    have he : p = f ⟨j, hjl⟩ := by
      have h2 := (List.getElem?_eq_some_iff.1 hj).2
      simp at h2
      exact h2.symm
    subst he
    refine ⟨[hdV (f ⟨j, hjl⟩)], rfl, rfl, fun i u hu => ?_⟩
    match i, hu with
    | 0, hu => obtain rfl : _ = u := by simpa using hu
               have := (hf ⟨j, hjl⟩).2.2.2 ad hA
               have hz : j * kH.sz + 0 = j := by show j * 1 + 0 = j; omega
               rw [hz]
               exact this
  · have := hf ⟨i, h2⟩
    simp only [List.getElem_map, List.getElem_finRange]
    exact ⟨this.1, this.2.1, this.2.2.1⟩
/-- A row of n numbers, whichever, in a block of numbers from lo on, below hi. -/
def IRow (W : World) (lo hi : Nat) (v : Value) (n : Nat) : Prop :=
  ∃ A c, v = .slice A n c ∧ (0 < n → ∃ g cur, A = some ⟨g, 0, none⟩ ∧ lo ≤ g ∧ g < hi ∧ W.heap[g]? = some (.cells cur 3 (0, 0)) ∧ n ≤ cur.size ∧ ∀ j, j < n → ∃ x, cur[j]? = some (.int .i64 x))
theorem IRow.of_R {W : World} {base hi : Nat} {ok : Nat → Prop} {v : Value} {l : List Int} (h : Kd.R (Kd.int .i64) 3 W base ok v l) (hok : ∀ k, ok k → k < hi) : IRow W base hi v l.length := by
  obtain ⟨hown, inner, ⟨hil, ho⟩, hr⟩ := h
  rcases ho with ⟨rfl, h0⟩ | ⟨g, cap, cur, rfl, hg, hc, hn, _, hs, ht⟩
  · exact ⟨none, 0, by rw [h0], fun hn => by omega⟩
  · refine ⟨some ⟨g, 0, none⟩, cap, rfl, fun h0 => ⟨g, cur, rfl, hg, hok g (hown g (by simp [Value.ownBlock])), hc, ?_, fun j hj => ?_⟩⟩
    · have : cur.size = cap := by rw [hs]; show cap * 1 = cap; omega
      omega
    · have h1 := hr.2 j l[j] (List.getElem?_eq_getElem hj)
      have h2 : (inner.drop (j * 1)).take 1 = [.int .i64 l[j]] := h1
      rw [Nat.mul_one] at h2
      have h3 : inner[j]? = some (.int .i64 l[j]) := by
        have := congrArg (fun z => z[0]?) h2
        simpa using this
      rw [← ht] at h3
      have h4 : l.length * (Kd.int .i64).sz = l.length := Nat.mul_one _
      rw [h4, List.getElem?_take_of_lt hj] at h3
      exact ⟨l[j], by simpa using h3⟩
theorem spot_add {a : Addr} (h : a.spot = none) (n : Nat) : (a.add n).spot = none := by unfold Addr.add; split <;> simp [h]
theorem addr_add_block (a : Addr) (n : Nat) : (a.add n).block = a.block := by unfold Addr.add; split <;> rfl
theorem cell_add {W : World} {g : Nat} {cur : Array Value} {t : TypeId} (h : W.heap[g]? = some (.cells cur t (0, 0))) (n : Nat) : W.cell? (Addr.add ⟨g, 0, none⟩ n) = cur[n]? := by
  unfold Addr.add
  split
  · rename_i hz
    rw [hz]
    simp [World.cell?, h]
  · simp [World.cell?, h]
theorem IRow.cell {W : World} {lo hi : Nat} {v : Value} {n : Nat} (h : IRow W lo hi v n) (j : Int) (h0 : 0 ≤ j) (hj : j < n) : ∃ ad c x, v = .slice (some ad) n c ∧ W.cell? (ad.add j.toNat) = some (.int .i64 x) ∧ W.frozen? (ad.add j.toNat) = false ∧
    lo ≤ (ad.add j.toNat).block ∧ (ad.add j.toNat).block < hi ∧ (ad.add j.toNat).spot = none ∧ ∃ cur, W.heap[(ad.add j.toNat).block]? = some (.cells cur 3 (0, 0)) := by
  obtain ⟨A, c, rfl, hA⟩ := h
  obtain ⟨g, cur, rfl, hg, hgh, hc, hn, hx⟩ := hA (by omega)
  obtain ⟨x, hx⟩ := hx j.toNat (by omega)
  refine ⟨⟨g, 0, none⟩, c, x, rfl, (cell_add hc _).trans hx, ?_, by rw [addr_add_block]; exact hg, by rw [addr_add_block]; exact hgh, spot_add rfl _, cur, by rw [addr_add_block]; exact hc⟩
  unfold Addr.add
  split <;> simp [World.frozen?, hc]
theorem IRow.store {W : World} {lo hi : Nat} {v : Value} {n : Nat} (h : IRow W lo hi v n) (a : Addr) (hs : a.spot = none) (x : Int) : IRow (W.setCell a (.int .i64 x)) lo hi v n := by
  obtain ⟨A, c, rfl, hA⟩ := h
  refine ⟨A, c, rfl, fun h0 => ?_⟩
  obtain ⟨g, cur, rfl, hg, hgh, hc, hn, hx⟩ := hA h0
  by_cases hga : g = a.block
  · have h2 : (W.setCell a (.int .i64 x)).heap[g]? = some (.cells (cur.setIfInBounds a.off (.int .i64 x)) 3 (0, 0)) := by
      subst hga
      have h3 := heap_setCell_same W a.block a.off cur 3 (.int .i64 x) hc
      have h4 : (⟨a.block, a.off, none⟩ : Addr) = a := by rw [← hs]
      rwa [h4] at h3
    refine ⟨g, _, rfl, hg, hgh, h2, by simpa using hn, fun j hj => ?_⟩
    rw [Array.getElem?_setIfInBounds]
    split
    · rw [if_pos (by omega)]; exact ⟨x, rfl⟩
    · exact hx j hj
  · exact ⟨g, cur, rfl, hg, hgh, (heap_setCell_other W a g _ hga).trans hc, hn, hx⟩
theorem IRow.move {W W1 : World} {lo hi : Nat} {v : Value} {n : Nat} (h : IRow W lo hi v n) (hm : ∀ b, lo ≤ b → b < hi → W1.heap[b]? = W.heap[b]?) : IRow W1 lo hi v n := by
  obtain ⟨A, c, rfl, hA⟩ := h
  refine ⟨A, c, rfl, fun h0 => ?_⟩
  obtain ⟨g, cur, rfl, hg, hgh, hc, hn, hx⟩ := hA h0
  exact ⟨g, cur, rfl, hg, hgh, (hm g hg hgh).trans hc, hn, hx⟩
/-- The headers of rows of a call's own: rows of numbers. -/
theorem heads_I {w : World} {base hi : Nat} {ok : Nat → Prop} {A : Option Addr} {c : Nat} {xs : List (List Int)} {hs : List Hd} (h : Kd.R (Kd.slice 3 (Kd.int .i64)) 33 w base ok (.slice A xs.length c) xs) (hl : hs.length = xs.length) (hC : Kd.C kH w A xs.length hs) (hok : ∀ k, ok k → k < hi) :
    ∀ x ∈ hs, IRow w base hi (hdV x) x.2.1 := by
  intro x hx
  obtain ⟨i, hi, rfl⟩ := List.mem_iff_getElem.1 hx
  have hix : i < xs.length := by omega
  obtain ⟨inner, hown⟩ := Kd.R_own h
  obtain ⟨g, cap, e, _⟩ := Kd.R_form h (by omega)
  injection e with e1 _ e2
  subst e1
  obtain ⟨ca, hcl, ⟨v', hv', hR⟩, hcc, _⟩ := Kd.R_elem h [] (i : Int) (by omega) (by omega)
  subst hv'
  have h1 := hcc 0 v' rfl
  have h2 : w.cell? ⟨g, i, none⟩ = some v' := by simpa [Kd.slice] using h1
  obtain ⟨ad, e3, h3⟩ := at_H hC (i : Int) (by omega) (by omega)
  obtain rfl := Option.some.inj e3
  have h4 : rd_H hs (i : Int) = hs[i] := by unfold rd_H; simp [hi]
  have h5 : (Addr.add ⟨g, 0, none⟩ ((i : Int)).toNat) = ⟨g, i, none⟩ := by
    unfold Addr.add
    split
    · rename_i hz; simp at hz; simp [hz]
    · simp
  rw [h4, h5, h2] at h3
  have h6 : v' = hdV hs[i] := Option.some.inj h3
  rw [← h6]
  have h7 := IRow.of_R hR (fun k hk => hok k hk.1)
  obtain ⟨A', c', e4, hA'⟩ := h7
  have h8 : hs[i].2.1 = (xs.getD ((i : Int)).toNat []).length := by
    rw [h6] at e4
    unfold hdV at e4
    injection e4
  rw [h8]
  exact ⟨A', c', e4, hA'⟩
/-- Blocks from z on, below n, are written; no other. -/
structure XW (z n : Nat) (A B : World) : Prop where
  os : B.os = A.os
  tape : B.tape = A.tape
  output : B.output = A.output
  size : B.heap.size = A.heap.size
  block : ∀ k, ¬ (z ≤ k ∧ k < n) → B.heap[k]? = A.heap[k]?
  ko : KeepsOthers A B
theorem XW.refl (z n : Nat) (A : World) : XW z n A A := ⟨rfl, rfl, rfl, rfl, fun _ _ => rfl, kO_below (Below.refl _ _)⟩
theorem XW.set {z n : Nat} {A B : World} (h : XW z n A B) {a : Addr} (h1 : z ≤ a.block) (h2 : a.block < n) (v : Value) : XW z n A (B.setCell a v) :=
  have hb : Below a.block B (B.setCell a v) := Below.setCell (Below.refl a.block B) (Nat.le_refl _) v
  ⟨hb.os.trans h.os, hb.tape.trans h.tape, hb.output.trans h.output, by simpa using h.size, fun k hk => (heap_setCell_other B a k v (by rintro rfl; exact hk ⟨h1, h2⟩)).trans (h.block k hk), h.ko.trans (KeepsOthers.setCell _ _ _)⟩
theorem XW.below {z n N : Nat} {A B : World} (h : XW z n A B) (hN : N ≤ z) : Below N A B := ⟨h.os, h.tape, h.output, by rw [h.size]; exact Nat.le_refl _, fun k hk => h.block k (by omega)⟩
theorem XW.own {z n B : Nat} {o : Obj} {T : Nat → Prop} {A A' : World} (h : XW z n A A') (ho : OwnB B o T A) (hB : B < z) : OwnB B o T A' := ⟨ho.1, (h.block B (by omega)).trans ho.2⟩
theorem XW.keepS {z n : Nat} {T : Nat → Prop} {A B : World} (h : XW z n A B) (hT : ∀ k, T k → k < z) : KeepS T A B := ⟨by rw [h.size]; exact Nat.le_refl _, fun k hk => h.block k (by have := hT k hk; omega)⟩
theorem inBlock_two {Q : Exit → Act → World → Prop} {b : Nat} {e : Exit} {a : Act} {w : World} (he : e = .normal ∨ e = .exit b) (h : Q .normal a w) : Exit.inBlock b Q e a w := by
  rcases he with rfl | rfl
  · simpa [Exit.inBlock] using h
  · simpa [Exit.inBlock] using h
/-- x = append(x, ..) for a boxed row of the caller's own, whose blocks lie from N on. -/
theorem own_app_base {α : Type} {d : Kd α} {W : World} {T ok ok' : Nat → Prop} {e t B N : Nat} {v1 v2 : Value} {xs xs' : List α} {wd w2 : World} (hN : W.heap.size ≤ B) (hWN : W.heap.size ≤ N) (hO : OutT W T wd) (hT : ∀ k, T k → k < wd.heap.size) (h1 : OwnB B (.cells #[v1] t) T wd) (hte : ∀ q, q ∈ e :: d.E → q ≠ t)
    (hok : ∀ k, ok k → ¬ T k) (hok' : ∀ k, ok' k → ¬ T k) (hR : d.R e wd N ok v1 xs) (ho2 : d.R e w2 N ok' v2 xs') (hb2 : Below N wd w2) (hg2 : wd.grownBy w2 v1.ownBlock) :
    AppP d W T e t B v1 v2 xs' wd w2 (w2.setCell ⟨B, 0, none⟩ v2) ∧ d.R e (w2.setCell ⟨B, 0, none⟩ v2) N ok' v2 xs' ∧ w2.heap[B]? = some (.cells #[v1] t (0, 0)) ∧ ∀ k, v1.ownBlock = some k → N ≤ k := by
  have hap := own_app hN hO hT h1 hte (Kd.R_mono (Kd.R_lower hR hWN) hok) (Kd.R_mono (Kd.R_lower ho2 hWN) hok') (hO.b.trans (hb2.mono hWN)) hg2
  have k1 : w2.heap[B]? = some (.cells #[v1] t (0, 0)) := (hg2.block _ (Array.getElem?_eq_some_iff.1 h1.2).1 (Kd.R_ne hR h1.2 (hte e (by simp)))).trans h1.2
  obtain ⟨inner, hown⟩ := Kd.R_own hR
  exact ⟨hap, Kd.R_set ho2 k1 hte 0 v2, k1, fun k hk => own_base hown k hk⟩
theorem take_drop_last {α β : Type} (f : α → β) (l : List α) (k kk : Nat) (hk : k < l.length) (hlen : (l.take (k + 1)).dropLast.length = kk) : (l.take (k + 1)).dropLast.map f = (l.map f).take (min kk (l.map f).length) := by
  have e : (l.take (k + 1)).dropLast = l.take k := by
    rw [List.dropLast_eq_take, List.length_take, List.take_take]
    congr 1; omega
  rw [e] at hlen ⊢
  rw [List.length_take] at hlen
  rw [List.map_take, List.length_map]
  congr 1; omega
/-- The row of headers, taken as_ an iterator of lists to be written. -/
theorem XW.row {z n base : Nat} {A B : World} {v : Value} {hs : List Hd} {ok : Nat → Prop} (h : XW z n A B) (hR : Kd.R kH 33 A base ok v hs) (hb : n ≤ base) : Kd.R kH 33 B base ok v hs :=
  Kd.R_mono (Kd.R_step (Kd.R_bound hR) (fun k hk _ => h.block k (by have := hk.2.1; omega))) (fun _ hk => hk.1)
end Go.Proofs.Ytgcdeablfoomhaa.PAll
end
