/- Lemmas and walks of one claim, packed into one text by a program (wip/shake.py). -/
import Derived.ArgAppend
import Derived.Below
import Derived.BigQuiet
import Derived.Deep.AppendLies
import Derived.Deep.CutBlock
import Derived.Deep.CutRange
import Derived.Deep.DeepCutAuto
import Derived.Deep.Draws
import Derived.Deep.LoopGhost
import Derived.Deep.OwnRows
import Derived.Deep.QuietTactic
import Derived.Deep.RegionHeld3
import Derived.KernelRfl
import Derived.Laws.BitsLemmas
import Derived.Laws.BytesArg
import Derived.Laws.IdiomCopy
import Derived.Laws.MakeOwn
import Derived.Laws.OwnMore
import Derived.Laws.Rows
import Derived.Laws.Slices
import Derived.Lib.AppendStr
import Derived.Lib.ConvBytes
import Derived.Lib.Hide
import Derived.LoopIn
import Derived.LoopNIn
import Derived.Maps.AppendAt
import Derived.Orders
import Derived.OrdersHeld
import Derived.OrdersIn
import Derived.OwnWalk
import Derived.OwnWalkIn
import Derived.RangeFuncBound
import Derived.RangeFuncBox
import Derived.RangeFuncCalls
import Derived.RangeFuncLeaves
import Derived.RangeFuncNested
import Derived.RowKit
import Derived.RowKit3
import Derived.Tactics
import Derived.TacticsInMore
import Derived.WalkKit
import Derived.WideLaws
import Derived.Test.YtgcdeablfoomhaaLe1
section
namespace Go.Proofs.Ytgcdeablfoomhaa.PAll
open Go.RowKit Go.Proofs.YtgcdeablfoomhaaW.PrintWords Go.Proofs.YtgcdeablfoomhaaW.PrintLast Go.Proofs.YtgcdeablfoomhaaW.PrintMore
attribute [local go_sem] max2_int min2_int max_two min_two max_three min_three max_four min_four   -- for this text's walks alone
set_option linter.unusedVariables false
set_option linter.unusedSimpArgs false
def errW : Option Int → Value
  | none => .nilIface
  | some c => .iface 0 (.int .i64 c)
theorem errW_none : errW none = .nilIface := rfl
theorem errW_some (c : Int) : errW (some c) = .iface 0 (.int .i64 c) := rfl
theorem info3 : (Try.prog.info? 3).map (fun i => (i.zero, i.size, i.bytes)) = some (some (.int .i64 0), 1, 8) := by kernel_rfl
theorem info33 : (Try.prog.info? 33).map (fun i => (i.zero, i.size, i.bytes)) = some (some (.slice none 0 0), 1, 24) := by kernel_rfl
structure S48 where
  f0 : ByteArray
  f1 : Int
  f2 : Int
def z48 : S48 := ⟨(⟨#[]⟩ : ByteArray), (0 : Int), (0 : Int)⟩
def k48 : Kd S48 := Kd.iso (Kd.pair Kd.string (Kd.pair (Kd.int .u8) (Kd.int .i64))) (fun x : S48 => (x.f0, x.f1, x.f2))
theorem k48_open {w : World} {x : S48} {cs : List Value} (h : k48.K w x cs) : cs = [.string x.f0, .int .u8 x.f1, .int .i64 x.f2] := by
  obtain ⟨_, _, rfl, rfl, ⟨_, _, rfl, rfl, rfl⟩⟩ := h
  exact rfl
theorem k48_mk (w : World) (x : S48)  : k48.K w x [.string x.f0, .int .u8 x.f1, .int .i64 x.f2] := ⟨[.string x.f0], [.int .u8 x.f1, .int .i64 x.f2], rfl, rfl, ⟨[.int .u8 x.f1], [.int .i64 x.f2], rfl, rfl, rfl⟩⟩
def rd_T48 (xs : List S48) (i : Int) : S48 := xs.getD i.toNat z48
theorem at_T48 {w : World} {A : Option Addr} {n : Nat} {xs : List S48} (h : Kd.C k48 w A n xs) (i : Int) (h0 : 0 ≤ i) (h1 : i < n) : ∃ ad , A = some ad ∧ w.cell? (ad.add (i.toNat * 3)) = some (.string (rd_T48 xs i).f0) ∧ w.cell? ⟨(ad.add (i.toNat * 3)).block, (ad.add (i.toNat * 3)).off + 1, none⟩ = some (.int .u8 (rd_T48 xs i).f1) ∧ w.cell? ⟨(ad.add (i.toNat * 3)).block, (ad.add (i.toNat * 3)).off + 2, none⟩ = some (.int .i64 (rd_T48 xs i).f2) := by
  obtain ⟨ad, c, e, _, hK, hc0⟩ := Kd.C_get h z48 i h0 h1
  have hc : ∀ j u, c[j]? = some u → w.cell? (ad.add (i.toNat * 3 + j)) = some u := hc0
  obtain rfl := k48_open hK
  exact ⟨ad, e, hc 0 _ rfl, by rw [← add_field _ _ 1 (by omega)]; exact hc 1 _ rfl, by rw [← add_field _ _ 2 (by omega)]; exact hc 2 _ rfl⟩
def rd_L4 (xs : List (List Int)) (i : Int) : (List Int) := xs.getD i.toNat ([] : List Int)
theorem at_L4 {w : World} {A : Option Addr} {n : Nat} {xs : List (List Int)} (h : Kd.C (Kd.slice 3 (Kd.int .i64)) w A n xs) (i : Int) (h0 : 0 ≤ i) (h1 : i < n) : ∃ ad A0 c0, A = some ad ∧ w.cell? (ad.add i.toNat) = some (.slice A0 (rd_L4 xs i).length c0) ∧ (rd_L4 xs i).length ≤ c0 ∧ (Kd.int .i64).C w A0 (rd_L4 xs i).length (rd_L4 xs i) := by
  obtain ⟨ad, c, e, _, hK, hc0⟩ := Kd.C_get h ([] : List Int) i h0 h1
  have hc : ∀ j u, c[j]? = some u → w.cell? (ad.add (i.toNat * 1 + j)) = some u := hc0
  obtain ⟨A0, c0, rfl, l0, g0⟩ := hK
  exact ⟨ad, A0, c0, e, by have hq := hc 0 _ rfl; rwa [Nat.mul_one, Nat.add_zero] at hq, l0, g0⟩
end Go.Proofs.Ytgcdeablfoomhaa.PAll
end
section
namespace Go.Proofs.Ytgcdeablfoomhaa.PAll
open Go.RowKit Go.Proofs.YtgcdeablfoomhaaW.PrintWords Go.Proofs.YtgcdeablfoomhaaW.PrintLast Go.Proofs.YtgcdeablfoomhaaW.PrintMore
attribute [local go_sem] max2_int min2_int max_two min_two max_three min_three max_four min_four   -- for this text's walks alone
set_option linter.unusedVariables false
set_option linter.unusedSimpArgs false
def enumerate_times.f (a0 : Int) (a1 : Int) : Option (Int) := if a1 = 0 then (none) else (if a0 > (wrap64 ((1099511627776 : Int) / a1)) then (some 1099511627777) else (some (mn (wrap64 (a0 * a1)) 1099511627777)))
set_option maxHeartbeats 8000000 in
set_option maxRecDepth 100000 in
theorem enumerate_times.calls (a0 : Int) (a1 : Int) (r : Int) (w : World) (h : enumerate_times.f a0 a1 = some r) :
    Calls Try.prog 43 #[.int .i64 a0, .int .i64 a1] w fun e w' => e = .returned (.int .i64 r) ∧ Below w.heap.size w w' := by
  have HB := Aside0.mk (Below.refl w.heap.size w)
  have H : (if a1 = 0 then (none) else (if a0 > (wrap64 ((1099511627776 : Int) / a1)) then (some 1099511627777) else (some (mn (wrap64 (a0 * a1)) 1099511627777)))) = some r := h
  clear h
  by_cases c3 : a1 = 0
  · rw [if_pos c3] at H
    exact absurd H (by simp)
  · rw [if_neg c3] at H
    have c3b0 : (a1 == 0) = false := beq_eq_false_iff_ne.mpr c3
    have c3b1 : (a1 != 0) = true := bne_iff_ne.mpr c3
    by_cases c4 : a0 > (wrap64 ((1099511627776 : Int) / a1))
    · rw [if_pos c4] at H
      have c4b0 : decide ((wrap64 ((1099511627776 : Int) / a1)) < a0) = true := decide_eq_true c4
      have c4b0t := c4b0
      rw [← Int.tdiv_eq_ediv_of_nonneg (by decide)] at c4b0t
      clear c4
      obtain rfl := Option.some.inj H
      go_enter Try.func43, Try.ntmps43
      go_wp2
      go_ret
      exact ⟨by first | rfl | (simp [errW_none, errW_some] <;> rfl) | (simp [*, errW_none, errW_some] <;> rfl), by repeat (first | (with_reducible first | exact HB.out | apply below_alloc | apply pw_below_drewN | apply below_drew1) | exact HB.out)⟩
    · rw [if_neg c4] at H
      have c4b0 : decide ((wrap64 ((1099511627776 : Int) / a1)) < a0) = false := decide_eq_false c4
      have c4b0t := c4b0
      rw [← Int.tdiv_eq_ediv_of_nonneg (by decide)] at c4b0t
      clear c4
      obtain ⟨ji5, hji5⟩ : ∃ j_ : Int, (mn (wrap64 (a0 * a1)) 1099511627777) = j_ := ⟨_, rfl⟩
      replace H : (some ji5) = some r := by first | (rw [hji5] at H; exact H) | (simp only [hji5] at H ⊢; exact H)
      (try (have hji5h : ji5 ≤ 1099511627777 := by (rw [← hji5]; unfold mn; (repeat' split) <;> omega)))
      (try (have hji5g : ji5 ≤ 64 := by omega))
      have hji5_ : (if 1099511627777 < (wrap64 (a0 * a1)) then 1099511627777 else (wrap64 (a0 * a1))) = ji5 := hji5
      obtain rfl := Option.some.inj H
      go_enter Try.func43, Try.ntmps43
      go_wp2
      go_ret
      exact ⟨by first | rfl | (simp [errW_none, errW_some] <;> rfl) | (simp only [← hji5]; first | rfl | (simp [errW_none, errW_some] <;> rfl)) | (simp [*, errW_none, errW_some] <;> rfl), by repeat (first | (with_reducible first | exact HB.out | apply below_alloc | apply pw_below_drewN | apply below_drew1) | exact HB.out)⟩
def enumerate_Rank.f (a0 : Int) : Option (Int) := if a0 > 0 then (some (wrap64 ((wrap64 (2 * a0)) - 1))) else (some (wrap64 ((-2) * a0)))
set_option maxHeartbeats 8000000 in
set_option maxRecDepth 100000 in
theorem enumerate_Rank.calls (a0 : Int) (r : Int) (w : World) (h : enumerate_Rank.f a0 = some r) :
    Calls Try.prog 16 #[.int .i64 a0] w fun e w' => e = .returned (.int .i64 r) ∧ Drawn0 w w' := by
  have H : (if a0 > 0 then (some (wrap64 ((wrap64 (2 * a0)) - 1))) else (some (wrap64 ((-2) * a0)))) = some r := h
  clear h
  by_cases c2 : a0 > 0
  · rw [if_pos c2] at H
    have c2b0 : decide (0 < a0) = true := decide_eq_true c2
    clear c2
    obtain rfl := Option.some.inj H
    go_enter Try.func16, Try.ntmps16
    go_wp2
    go_ret
    exact ⟨by first | rfl | (simp; done) | (simp [*]; done), by repeat (first | exact Drawn0.refl _ | apply Drawn0.step)⟩
  · rw [if_neg c2] at H
    have c2b0 : decide (0 < a0) = false := decide_eq_false c2
    clear c2
    obtain rfl := Option.some.inj H
    go_enter Try.func16, Try.ntmps16
    go_wp2
    go_ret
    exact ⟨by first | rfl | (simp; done) | (simp [*]; done), by repeat (first | exact Drawn0.refl _ | apply Drawn0.step)⟩
def enumerate_Unrank.f (a0 : Int) : Option (Int) := if a0 < 0 then (some 0) else (if (Int.tmod a0 2) = 1 then (some (wrap64 (Int.tdiv (wrap64 (a0 + 1)) 2))) else (some (wrap64 (Int.tdiv (wrap64 (-a0)) 2))))
set_option maxHeartbeats 8000000 in
set_option maxRecDepth 100000 in
theorem enumerate_Unrank.calls (a0 : Int) (r : Int) (w : World) (h : enumerate_Unrank.f a0 = some r) :
    Calls Try.prog 17 #[.int .i64 a0] w fun e w' => e = .returned (.int .i64 r) ∧ Drawn0 w w' := by
  have H : (if a0 < 0 then (some 0) else (if (Int.tmod a0 2) = 1 then (some (wrap64 (Int.tdiv (wrap64 (a0 + 1)) 2))) else (some (wrap64 (Int.tdiv (wrap64 (-a0)) 2))))) = some r := h
  clear h
  by_cases c2 : a0 < 0
  · rw [if_pos c2] at H
    have c2b0 : decide (a0 < 0) = true := decide_eq_true c2
    clear c2
    obtain rfl := Option.some.inj H
    go_enter Try.func17, Try.ntmps17
    go_wp2
    go_ret
    exact ⟨by first | rfl | (simp; done) | (simp [*]; done), by repeat (first | exact Drawn0.refl _ | apply Drawn0.step)⟩
  · rw [if_neg c2] at H
    have c2b0 : decide (a0 < 0) = false := decide_eq_false c2
    clear c2
    by_cases c3 : (Int.tmod a0 2) = 1
    · rw [if_pos c3] at H
      have c3b0 : ((Int.tmod a0 2) == 1) = true := beq_iff_eq.mpr c3
      have c3b1 : ((Int.tmod a0 2) != 1) = false := bne_eq_false_iff_eq.mpr c3
      clear c3
      obtain rfl := Option.some.inj H
      go_enter Try.func17, Try.ntmps17
      go_wp2
      go_ret
      exact ⟨by first | rfl | (simp; done) | (simp [*]; done), by repeat (first | exact Drawn0.refl _ | apply Drawn0.step)⟩
    · rw [if_neg c3] at H
      have c3b0 : ((Int.tmod a0 2) == 1) = false := beq_eq_false_iff_ne.mpr c3
      have c3b1 : ((Int.tmod a0 2) != 1) = true := bne_iff_ne.mpr c3
      obtain rfl := Option.some.inj H
      go_enter Try.func17, Try.ntmps17
      go_wp2
      go_ret
      exact ⟨by first | rfl | (simp; done) | (simp [*]; done), by repeat (first | exact Drawn0.refl _ | apply Drawn0.step)⟩
def backstepref12_Rank.f (a0 : Int) : Option (Int) := if a0 > 0 then (some (wrap64 ((wrap64 (2 * a0)) - 1))) else (some (wrap64 (-(wrap64 (2 * a0)))))
set_option maxHeartbeats 8000000 in
set_option maxRecDepth 100000 in
theorem backstepref12_Rank.calls (a0 : Int) (r : Int) (w : World) (h : backstepref12_Rank.f a0 = some r) :
    Calls Try.prog 18 #[.int .i64 a0] w fun e w' => e = .returned (.int .i64 r) ∧ Drawn0 w w' := by
  have H : (if a0 > 0 then (some (wrap64 ((wrap64 (2 * a0)) - 1))) else (some (wrap64 (-(wrap64 (2 * a0)))))) = some r := h
  clear h
  by_cases c2 : a0 > 0
  · rw [if_pos c2] at H
    have c2b0 : decide (0 < a0) = true := decide_eq_true c2
    clear c2
    obtain rfl := Option.some.inj H
    go_enter Try.func18, Try.ntmps18
    go_wp2
    go_ret
    exact ⟨by first | rfl | (simp; done) | (simp [*]; done), by repeat (first | exact Drawn0.refl _ | apply Drawn0.step)⟩
  · rw [if_neg c2] at H
    have c2b0 : decide (0 < a0) = false := decide_eq_false c2
    clear c2
    obtain rfl := Option.some.inj H
    go_enter Try.func18, Try.ntmps18
    go_wp2
    go_ret
    exact ⟨by first | rfl | (simp; done) | (simp [*]; done), by repeat (first | exact Drawn0.refl _ | apply Drawn0.step)⟩
def backstepref12_lists.l0 : Nat → List (List Int) → Int → List (List Int) → List Int → List Int → Option ((List (List Int)))
  | 0, _, _, _, _, _ => none
  | k + 1, x3, x4, x111000, x111001, x111002 => if x4 < (x111000.length : Int) then (if 0 ≤ x4 then (if x3.length < 5864062014805 then (backstepref12_lists.l0 k (x3 ++ [rd_L4 x111000 x4]) (wrap64 (x4 + 1)) x111000 x111001 x111002) else (none)) else (none)) else ((some (([x111001, x111002] : List (List Int)) : List (List Int))).bind fun y115 => (if x3.length + y115.length < 5864062014805 then (some (x3 ++ y115)) else (none)))
def backstepref12_lists.f (k : Nat) (l0_0 : List (List Int)) (l0_1 : List Int) (l0_2 : List Int) : Option ((List (List Int))) := backstepref12_lists.l0 k ([] : List (List Int)) 0 l0_0 l0_1 l0_2
theorem backstepref12_lists.mono_l : ∀ k, (∀ y0 y1 y2 y3 y4, LeO (backstepref12_lists.l0 k y0 y1 y2 y3 y4) (backstepref12_lists.l0 (k + 1) y0 y1 y2 y3 y4))
  | 0 => fun _ _ _ _ _ r h => by simp [backstepref12_lists.l0] at h
  | k + 1 => by
    have ih0 := backstepref12_lists.mono_l k
    · intro y0 y1 y2 y3 y4
      unfold backstepref12_lists.l0
      repeat' first
      | (with_reducible exact ih0 _ _ _ _ _)
      | (with_reducible exact LeO.refl _)
      | (with_reducible exact LeO.none _)
      | (with_reducible refine LeO.ite ?_ ?_)
      | (with_reducible refine LeO.bind ?_ (fun _ => ?_))
      | exact ih0 _ _ _ _ _
      | exact LeO.none _
      | refine LeO.ite ?_ ?_
      | refine LeO.bind ?_ (fun _ => ?_)
theorem backstepref12_lists.mono : ∀ a0 a1 a2 k, LeO (backstepref12_lists.f k a0 a1 a2) (backstepref12_lists.f (k + 1) a0 a1 a2) := by
  intro a0 a1 a2 k
  have ih0 := backstepref12_lists.mono_l k
  unfold backstepref12_lists.f
  repeat' first
      | (with_reducible exact ih0 _ _ _ _ _)
      | (with_reducible exact LeO.refl _)
      | (with_reducible exact LeO.none _)
      | (with_reducible refine LeO.ite ?_ ?_)
      | (with_reducible refine LeO.bind ?_ (fun _ => ?_))
      | exact ih0 _ _ _ _ _
      | exact LeO.none _
      | refine LeO.ite ?_ ?_
      | refine LeO.bind ?_ (fun _ => ?_)
set_option maxHeartbeats 8000000 in
set_option maxRecDepth 100000 in
theorem backstepref12_lists.calls (k : Nat) (P0_0_ : Nat → Prop) (A0_0 : Option Addr) (c0_0 : Nat) (l0_0 : List (List Int)) (P0_1_ : Nat → Prop) (A0_1 : Option Addr) (c0_1 : Nat) (l0_1 : List Int) (P0_2_ : Nat → Prop) (A0_2 : Option Addr) (c0_2 : Nat) (l0_2 : List Int) (r : List (List Int)) (w : World) (hs0_0 : Kd.V (Kd.slice 3 (Kd.int .i64)) 33 w w.heap.size (fun k_ => P0_0_ k_) (.slice A0_0 l0_0.length c0_0) l0_0) (hs0_1 : Kd.V (Kd.int .i64) 3 w w.heap.size (fun k_ => P0_1_ k_) (.slice A0_1 l0_1.length c0_1) l0_1) (hs0_2 : Kd.V (Kd.int .i64) 3 w w.heap.size (fun k_ => P0_2_ k_) (.slice A0_2 l0_2.length c0_2) l0_2) (h : backstepref12_lists.f k l0_0 l0_1 l0_2 = some r) :
    Calls Try.prog 34 #[.agg #[.slice A0_0 l0_0.length c0_0, .slice A0_1 l0_1.length c0_1, .slice A0_2 l0_2.length c0_2]] w fun e w' => ∃ v0_ : Value, e = .returned (v0_) ∧ Kd.N (Kd.slice 3 (Kd.int .i64)) 33 w' w.heap.size (fun k_ => ((P0_0_ k_ ∨ P0_1_ k_ ∨ P0_2_ k_) ∨ w.heap.size ≤ k_)) v0_ r ∧ Below w.heap.size w w' := by
  have hu35 := Try.underlying35
  have HO0_0 := Aside0.mk (show Kd.V (Kd.slice 3 (Kd.int .i64)) 33 w w.heap.size (fun k_ => ((P0_0_ k_ ∨ P0_1_ k_ ∨ P0_2_ k_) ∨ w.heap.size ≤ k_)) (.slice A0_0 l0_0.length c0_0) l0_0 from Kd.V_mono hs0_0 (fun k_ hk => .inl (.inl hk)))
  have HO0_1 := Aside0.mk (show Kd.V (Kd.int .i64) 3 w w.heap.size (fun k_ => ((P0_0_ k_ ∨ P0_1_ k_ ∨ P0_2_ k_) ∨ w.heap.size ≤ k_)) (.slice A0_1 l0_1.length c0_1) l0_1 from Kd.V_mono hs0_1 (fun k_ hk => .inl (.inr (.inl hk))))
  have HO0_2 := Aside0.mk (show Kd.V (Kd.int .i64) 3 w w.heap.size (fun k_ => ((P0_0_ k_ ∨ P0_1_ k_ ∨ P0_2_ k_) ∨ w.heap.size ≤ k_)) (.slice A0_2 l0_2.length c0_2) l0_2 from Kd.V_mono hs0_2 (fun k_ hk => .inl (.inr (.inr hk))))
  have HB := Aside0.mk (Below.refl w.heap.size w)
  have H : (backstepref12_lists.l0 k ([] : List (List Int)) 0 l0_0 l0_1 l0_2) = some r := h
  clear h
  have H' := Aside0.mk H
  clear H
  go_enter Try.func34, Try.ntmps34
  go_wp2_with (first | ((with_reducible refine gate_dst (N := 1) rfl ?_); refine box_event ?hg (N := 1) ?hd (cs := #[.slice A0_0 l0_0.length c0_0, .slice A0_1 l0_1.length c0_1, .slice A0_2 l0_2.length c0_2]) (t := 35) ?hr ?_; (case hd => rfl); (case hg => rfl); (case hr => first | (go_simp; done) | (go_simp; rfl)); intro gb110 hg w2 hbox hb; have n0_ := Aside0.mk (Kd.V_below (Kd.V_elderB (by (with_reducible repeat (first | apply Kd.V_alloc | apply Kd.V_drewN | apply Kd.V_drew)); exact HO0_0.out) gb110 (Nat.le_of_eq hg.symm)) hb); have n1_ := Aside0.mk (Kd.V_below (Kd.V_elderB (by (with_reducible repeat (first | apply Kd.V_alloc | apply Kd.V_drewN | apply Kd.V_drew)); exact HO0_1.out) gb110 (Nat.le_of_eq hg.symm)) hb); have n2_ := Aside0.mk (Kd.V_below (Kd.V_elderB (by (with_reducible repeat (first | apply Kd.V_alloc | apply Kd.V_drewN | apply Kd.V_drew)); exact HO0_2.out) gb110 (Nat.le_of_eq hg.symm)) hb); have n3_ := Aside0.mk (below_step (by repeat (first | (with_reducible first | exact HB.out | apply below_alloc | apply pw_below_drewN | apply below_drew1) | exact HB.out)) hb); have n4_ := Aside0.mk (hbox); have n5_ := Aside0.mk ((by rw [hg]; exact (below_size (by repeat (first | (with_reducible first | exact HB.out | apply below_alloc | apply pw_below_drewN | apply below_drew1) | exact HB.out))) : w.heap.size ≤ gb110)); have n6_ := Aside0.mk ((by rw [hg]; exact (below_size (by repeat (first | (with_reducible first | exact HB.out | apply below_alloc | apply pw_below_drewN | apply below_drew1) | exact HB.out))) : w.heap.size ≤ gb110)); clear HO0_0; clear HO0_1; clear HO0_2; clear HB; have HO0_0 := n0_; have HO0_1 := n1_; have HO0_2 := n2_; have HB := n3_; have BK110 := n4_; have GW110 := n5_; have GE110 := n6_; clear n0_ n1_ n2_ n3_ n4_ n5_ n6_; clear hb hbox hg))
  go_loopg [3, 4] k (fun kq v3 v4 w' => ∃ (x3_1 : List (List Int)) (x4_1 : Int), v4 = .int .i64 x4_1 ∧ Aside0 (backstepref12_lists.l0 kq x3_1 x4_1 l0_0 l0_1 l0_2 = some r) ∧ Aside0 (kq ≤ k) ∧ Aside0 (Kd.N (Kd.slice 3 (Kd.int .i64)) 33 w' w.heap.size (fun k_ => ((P0_0_ k_ ∨ P0_1_ k_ ∨ P0_2_ k_) ∨ w.heap.size ≤ k_) ∧ k_ ≠ gb110) v3 x3_1) ∧ Aside0 (Kd.V (Kd.slice 3 (Kd.int .i64)) 33 w' w.heap.size (fun k_ => ((P0_0_ k_ ∨ P0_1_ k_ ∨ P0_2_ k_) ∨ w.heap.size ≤ k_) ∧ some k_ ≠ (v3 : Value).ownBlock ∧ k_ ≠ gb110) (.slice A0_0 l0_0.length c0_0) l0_0) ∧ Aside0 (Kd.V (Kd.int .i64) 3 w' w.heap.size (fun k_ => ((P0_0_ k_ ∨ P0_1_ k_ ∨ P0_2_ k_) ∨ w.heap.size ≤ k_) ∧ some k_ ≠ (v3 : Value).ownBlock ∧ k_ ≠ gb110) (.slice A0_1 l0_1.length c0_1) l0_1) ∧ Aside0 (Kd.V (Kd.int .i64) 3 w' w.heap.size (fun k_ => ((P0_0_ k_ ∨ P0_1_ k_ ∨ P0_2_ k_) ∨ w.heap.size ≤ k_) ∧ some k_ ≠ (v3 : Value).ownBlock ∧ k_ ≠ gb110) (.slice A0_2 l0_2.length c0_2) l0_2) ∧ Aside0 (w'.heap[gb110]? = some (.cells #[(.slice A0_0 l0_0.length c0_0), (.slice A0_1 l0_1.length c0_1), (.slice A0_2 l0_2.length c0_2)] 35 (0, 0))) ∧ Aside0 (Below w.heap.size w w'))
  case atStart => exact ⟨(([] : List (List Int))), (0), (by first | rfl | (simp; done) | (simp [*]; done)), H', ⟨Nat.le_refl _⟩, ⟨by first | exact Kd.S_nil _ _ _ _ _ | exact Kd.N_nil _ _ _ _ _ | exact Kd.V_nil _ _ _ _ _ | exact Kd.Q_nil _ _ _ _ _ | exact Kd.R_nil _ _ _ _ _⟩, ⟨by (with_reducible repeat (first | apply Kd.V_alloc | apply Kd.V_drewN | apply Kd.V_drew)); exact Kd.V_mono HO0_0.out (fun _ hk => ⟨hk.1, ⟨(by simp [Value.ownBlock]), hk.2⟩⟩)⟩, ⟨by (with_reducible repeat (first | apply Kd.V_alloc | apply Kd.V_drewN | apply Kd.V_drew)); exact Kd.V_mono HO0_1.out (fun _ hk => ⟨hk.1, ⟨(by simp [Value.ownBlock]), hk.2⟩⟩)⟩, ⟨by (with_reducible repeat (first | apply Kd.V_alloc | apply Kd.V_drewN | apply Kd.V_drew)); exact Kd.V_mono HO0_2.out (fun _ hk => ⟨hk.1, ⟨(by simp [Value.ownBlock]), hk.2⟩⟩)⟩, ⟨by (with_reducible repeat (first | refine blk_drewN ?_ _ | refine blk_drew ?_ | refine blk_alloc ?_ _)); exact BK110.out⟩, ⟨by repeat (first | (with_reducible first | exact HB.out | apply below_alloc | apply pw_below_drewN | apply below_drew1 | refine below_set ?_ GE110.out) | exact HB.out)⟩⟩
  case round =>
    clear H'
    try clear p2
    obtain ⟨x3_1, x4_1, rfl, HA, HK1, HO_3, HO_111000, HO_111001, HO_111002, BK110, HB⟩ := hrel
    cases gk with
    | zero => exact absurd HA.out (by simp [backstepref12_lists.l0])
    | succ k1 =>
      have H := HA.out
      clear HA
      simp only [backstepref12_lists.l0] at H
      by_cases c3 : x4_1 < (l0_0.length : Int)
      · rw [if_pos c3] at H
        have c3b0 : decide (x4_1 < (l0_0.length : Int)) = true := decide_eq_true c3
        clear c3
        by_cases c4 : 0 ≤ x4_1
        · rw [if_pos c4] at H
          have c4b0 : decide (0 ≤ x4_1) = true := decide_eq_true c4
          clear c4
          by_cases c5 : x3_1.length < 5864062014805
          · rw [if_pos c5] at H
            have LMc5 := Aside0.mk c5
            clear c5
            obtain ⟨y112, hy112⟩ : ∃ y_ : List (List Int), y_ = (x3_1 ++ [rd_L4 l0_0 x4_1]) := ⟨_, rfl⟩
            replace H : (backstepref12_lists.l0 k1 y112 (wrap64 (x4_1 + 1)) l0_0 l0_1 l0_2) = some r := by first | (rw [hy112]; with_reducible exact H) | (have H2_ := (Option.bind_some _ _).symm.trans H; rw [hy112]; with_reducible exact H2_) | (have H2_ := (Option.bind_some _ _).symm.trans H; with_reducible exact H2_) | with_reducible exact H | (rw [hy112]; exact H) | exact H
            have Ny112 := Aside0.mk hy112
            clear hy112
            have H' := Aside0.mk H
            clear H
            have hcz6_0 : wr.cell? ⟨gb110, 0, none⟩ = some (.slice A0_0 l0_0.length c0_0) := (blk_cell BK110.out 0).trans rfl
            have hcz6_1 : wr.cell? ⟨gb110, 1, none⟩ = some (.slice A0_1 l0_1.length c0_1) := (blk_cell BK110.out 1).trans rfl
            have hcz6_2 : wr.cell? ⟨gb110, 2, none⟩ = some (.slice A0_2 l0_2.length c0_2) := (blk_cell BK110.out 2).trans rfl
            have hfz6_0 := blk_frozen BK110.out 0
            have hfz6_1 := blk_frozen BK110.out 1
            have hfz6_2 := blk_frozen BK110.out 2
            have p111 : 0 ≤ (x4_1 : Int) := of_decide_eq_true (by first | (with_reducible assumption) | assumption)
            have q111 : x4_1 < (l0_0.length : Int) := of_decide_eq_true (by first | (with_reducible assumption) | assumption)
            obtain ⟨ad111, A111_0, c111_0, e111, hx111_0, hl111_0, hi111_0⟩ := at_L4 (Kd.V_reads' HO_111000.out).2.2 x4_1 p111 q111
            cases e111
            obtain ⟨ce111, hce111, hMe111, hcc111⟩ := Kd.V_get HO_111000.out [] x4_1 p111 (by first | exact q111 | exact of_decide_eq_true (by first | (with_reducible assumption) | assumption) | (have e_ := (Kd.V_reads' HO_111000.out).1; omega))
            obtain ⟨ua111_0, uc111_0, rfl, ul111_0, ge111_0⟩ := Kd.FK_slice_open hMe111
            have hv111_0 := hcc111 0 _ rfl
            rw [Nat.add_zero, show ((Kd.slice 3 (Kd.int .i64))).sz = 1 from rfl, Nat.mul_one] at hv111_0
            replace hv111_0 := Option.some.inj (hv111_0.symm.trans hx111_0)
            injection hv111_0 with hva_ hvn_ hvc_
            rw [hva_] at ge111_0
            rw [hvc_] at ul111_0
            have HL111_0 := Aside0.mk (show Kd.V (Kd.int .i64) 3 _ w.heap.size _ _ (rd_L4 l0_0 x4_1) from Kd.V_mk ul111_0 ge111_0)
            clear hva_ hvn_ hvc_ ge111_0 ul111_0
            clear hcc111 hce111
            have HR111_0 := Aside0.mk hi111_0
            have HC111_0 := Aside0.mk hl111_0
            clear hi111_0 hl111_0
            replace p111 := eq_true p111
            replace q111 := eq_true q111
            go_wp2_with (first | ((with_reducible refine gate_builtin (b := .append) (xs := #[.tmp 12, .tmp 18]) rfl ?_); at_builtin; refine Kd.N_append (Kd.slice 3 (Kd.int .i64)) (w0 := w) w.heap.size rfl (.tmp 12) (.tmp 18) 32 33 (.slice none 0 0) 24 rfl Try.underlying32 info33 rfl (by decide) (by omega) u3 x3_1 (rd_L4 l0_0 x4_1) [.slice A111_0 (rd_L4 l0_0 x4_1).length c111_0] (fun k_ => ((P0_0_ k_ ∨ P0_1_ k_ ∨ P0_2_ k_) ∨ w.heap.size ≤ k_) ∧ k_ ≠ gb110) (fun k_ => ((fun k_ => ((P0_0_ k_ ∨ P0_1_ k_ ∨ P0_2_ k_) ∨ w.heap.size ≤ k_) ∧ k_ ≠ gb110)) k_ ∧ some k_ ≠ (u3 : Value).ownBlock) rfl rfl ?aP (fun _ hk => hk) ?aF ?aO ?aB ?aS ?aL ?_; (case aP => exact (Kd.FK_slice_mk (Kd.V_reads' (Kd.V_mono (ok' := (fun k_ => ((fun k_ => ((P0_0_ k_ ∨ P0_1_ k_ ∨ P0_2_ k_) ∨ w.heap.size ≤ k_) ∧ k_ ≠ gb110)) k_ ∧ some k_ ≠ (u3 : Value).ownBlock)) (HL111_0.out) (fun k_ hk => ⟨⟨hk.1, hk.2.2⟩, hk.2.1⟩))).2.1 (Kd.V_F (Kd.V_mono (ok' := (fun k_ => ((fun k_ => ((P0_0_ k_ ∨ P0_1_ k_ ∨ P0_2_ k_) ∨ w.heap.size ≤ k_) ∧ k_ ≠ gb110)) k_ ∧ some k_ ≠ (u3 : Value).ownBlock)) (HL111_0.out) (fun k_ hk => ⟨⟨hk.1, hk.2.2⟩, hk.2.1⟩))))); (case aB => exact (by repeat (first | (with_reducible first | exact HB.out | apply below_alloc | apply pw_below_drewN | apply below_drew1 | refine below_set ?_ GE110.out) | exact HB.out))); (case aF => exact (fun k_ hk => ⟨(.inr (Nat.le_trans (below_size (by repeat (first | (with_reducible first | exact HB.out | apply below_alloc | apply pw_below_drewN | apply below_drew1 | refine below_set ?_ GE110.out) | exact HB.out))) hk)), Kd.freshB (g := gb110) (o := .cells #[.slice (some ad111) l0_0.length c0_0, .slice A0_1 l0_1.length c0_1, .slice A0_2 l0_2.length c0_2] 35 (0, 0)) (by (with_reducible repeat (first | refine blk_drewN ?_ _ | refine blk_drew ?_ | refine blk_alloc ?_ _)); exact BK110.out) k_ hk⟩)); (case aO => exact (by (with_reducible repeat (first | apply Kd.N_alloc | apply Kd.N_drewN | apply Kd.N_drew)); exact HO_3.out)); (case aS => exact (below_size (by repeat (first | (with_reducible first | exact HB.out | apply below_alloc | apply pw_below_drewN | apply below_drew1 | refine below_set ?_ GE110.out) | exact HB.out)))); (case aL => have := LMc5.out; omega); intro v113 w7 ho hb hg hat; rw [← Ny112.out] at ho; have n0_ := Aside0.mk (Kd.V_afterv (ok := (fun k_ => ((P0_0_ k_ ∨ P0_1_ k_ ∨ P0_2_ k_) ∨ w.heap.size ≤ k_) ∧ k_ ≠ gb110)) (by (with_reducible repeat (first | apply Kd.V_alloc | apply Kd.V_drewN | apply Kd.V_drew)); exact Kd.V_mono HO_111000.out (fun _ hk => ⟨⟨hk.1, hk.2.2⟩, hk.2.1⟩)) hg hat); have n1_ := Aside0.mk (Kd.V_afterv (ok := (fun k_ => ((P0_0_ k_ ∨ P0_1_ k_ ∨ P0_2_ k_) ∨ w.heap.size ≤ k_) ∧ k_ ≠ gb110)) (by (with_reducible repeat (first | apply Kd.V_alloc | apply Kd.V_drewN | apply Kd.V_drew)); exact Kd.V_mono HO_111001.out (fun _ hk => ⟨⟨hk.1, hk.2.2⟩, hk.2.1⟩)) hg hat); have n2_ := Aside0.mk (Kd.V_afterv (ok := (fun k_ => ((P0_0_ k_ ∨ P0_1_ k_ ∨ P0_2_ k_) ∨ w.heap.size ≤ k_) ∧ k_ ≠ gb110)) (by (with_reducible repeat (first | apply Kd.V_alloc | apply Kd.V_drewN | apply Kd.V_drew)); exact Kd.V_mono HO_111002.out (fun _ hk => ⟨⟨hk.1, hk.2.2⟩, hk.2.1⟩)) hg hat); have n3_ := Aside0.mk (blk_grown (g := gb110) (o := .cells #[.slice (some ad111) l0_0.length c0_0, .slice A0_1 l0_1.length c0_1, .slice A0_2 l0_2.length c0_2] 35 (0, 0)) (by (with_reducible repeat (first | refine blk_drewN ?_ _ | refine blk_drew ?_ | refine blk_alloc ?_ _)); exact BK110.out) hg (Kd.N_ne HO_3.out BK110.out (by decide))); have n4_ := Aside0.mk (Kd.V_afterv (ok := (fun k_ => ((P0_0_ k_ ∨ P0_1_ k_ ∨ P0_2_ k_) ∨ w.heap.size ≤ k_) ∧ k_ ≠ gb110)) (by (with_reducible repeat (first | apply Kd.V_alloc | apply Kd.V_drewN | apply Kd.V_drew)); exact Kd.V_mono HL111_0.out (fun _ hk => ⟨⟨hk.1, hk.2.2⟩, hk.2.1⟩)) hg hat); have n5_ := Aside0.mk (hb); have n6_ := Aside0.mk (ho); clear HO_111000; clear HO_111001; clear HO_111002; clear BK110; clear HL111_0; clear HB; clear HO_3; have HO_111000 := n0_; have HO_111001 := n1_; have HO_111002 := n2_; have BK110 := n3_; have HL111_0 := n4_; have HB := n5_; have HO114 := n6_; clear n0_ n1_ n2_ n3_ n4_ n5_ n6_; clear ho hb hg hat))
            go_roundg k1
            case measure => have := HK1.out; omega
            case rel => exact ⟨(y112), (wrap64 (x4_1 + 1)), (by first | rfl | (simp; done) | (simp [*]; done)), H', ⟨by have := HK1.out; omega⟩, ⟨by (with_reducible repeat (first | apply Kd.N_alloc | apply Kd.N_drewN | apply Kd.N_drew)); exact HO114.out⟩, ⟨by (with_reducible repeat (first | apply Kd.V_alloc | apply Kd.V_drewN | apply Kd.V_drew)); exact Kd.V_mono HO_111000.out (fun _ hk => ⟨hk.1.1, ⟨hk.2, hk.1.2⟩⟩)⟩, ⟨by (with_reducible repeat (first | apply Kd.V_alloc | apply Kd.V_drewN | apply Kd.V_drew)); exact Kd.V_mono HO_111001.out (fun _ hk => ⟨hk.1.1, ⟨hk.2, hk.1.2⟩⟩)⟩, ⟨by (with_reducible repeat (first | apply Kd.V_alloc | apply Kd.V_drewN | apply Kd.V_drew)); exact Kd.V_mono HO_111002.out (fun _ hk => ⟨hk.1.1, ⟨hk.2, hk.1.2⟩⟩)⟩, ⟨by (with_reducible repeat (first | refine blk_drewN ?_ _ | refine blk_drew ?_ | refine blk_alloc ?_ _)); exact BK110.out⟩, ⟨by repeat (first | (with_reducible first | exact HB.out | apply below_alloc | apply pw_below_drewN | apply below_drew1 | refine below_set ?_ GE110.out) | exact HB.out)⟩⟩
          · rw [if_neg c5] at H
            exact absurd H (by simp)
        · rw [if_neg c4] at H
          exact absurd H (by simp)
      · rw [if_neg c3] at H
        have c3b0 : decide (x4_1 < (l0_0.length : Int)) = false := decide_eq_false c3
        clear c3
        obtain ⟨y115, hy115⟩ : ∃ y_ : List (List Int), y_ = (([l0_1, l0_2] : List (List Int))) := ⟨_, rfl⟩
        replace H : (if x3_1.length + y115.length < 5864062014805 then (some (x3_1 ++ y115)) else (none)) = some r := by first | (rw [hy115]; with_reducible exact H) | (have H2_ := (Option.bind_some _ _).symm.trans H; rw [hy115]; with_reducible exact H2_) | (have H2_ := (Option.bind_some _ _).symm.trans H; with_reducible exact H2_) | with_reducible exact H | (rw [hy115]; exact H) | exact H
        have Ny115 := Aside0.mk hy115
        clear hy115
        by_cases c8 : x3_1.length + y115.length < 5864062014805
        · rw [if_pos c8] at H
          have LMc8 := Aside0.mk c8
          clear c8
          obtain ⟨y118, hy118⟩ : ∃ y_ : List (List Int), y_ = (x3_1 ++ y115) := ⟨_, rfl⟩
          replace H : (some y118) = some r := by first | (rw [hy118]; with_reducible exact H) | (have H2_ := (Option.bind_some _ _).symm.trans H; rw [hy118]; with_reducible exact H2_) | (have H2_ := (Option.bind_some _ _).symm.trans H; with_reducible exact H2_) | with_reducible exact H | (rw [hy118]; exact H) | exact H
          have Ny118 := Aside0.mk hy118
          clear hy118
          obtain rfl := Option.some.inj H
          have hcz9_0 : wr.cell? ⟨gb110, 0, none⟩ = some (.slice A0_0 l0_0.length c0_0) := (blk_cell BK110.out 0).trans rfl
          have hcz9_1 : wr.cell? ⟨gb110, 1, none⟩ = some (.slice A0_1 l0_1.length c0_1) := (blk_cell BK110.out 1).trans rfl
          have hcz9_2 : wr.cell? ⟨gb110, 2, none⟩ = some (.slice A0_2 l0_2.length c0_2) := (blk_cell BK110.out 2).trans rfl
          have hfz9_0 := blk_frozen BK110.out 0
          have hfz9_1 := blk_frozen BK110.out 1
          have hfz9_2 := blk_frozen BK110.out 2
          go_wp2_with (first | ((with_reducible refine gate_dst (N := 25) rfl ?_); refine Kd.N_lit (Kd.slice 3 (Kd.int .i64)) _ 33 ?hg (N' := 25) ?hd (xs := ([l0_1, l0_2] : List (List Int))) (inner := [.slice A0_1 l0_1.length c0_1, .slice A0_2 l0_2.length c0_2]) (ok := (fun k_ => ((P0_0_ k_ ∨ P0_1_ k_ ∨ P0_2_ k_) ∨ w.heap.size ≤ k_) ∧ some k_ ≠ (u3 : Value).ownBlock ∧ k_ ≠ gb110)) (okp := (fun k_ => ((P0_0_ k_ ∨ P0_1_ k_ ∨ P0_2_ k_) ∨ w.heap.size ≤ k_) ∧ some k_ ≠ (u3 : Value).ownBlock ∧ k_ ≠ gb110)) ?hr ?hp (fun _ hk => hk) ((show ∀ k_, wr.heap.size ≤ k_ → (fun k_ => ((P0_0_ k_ ∨ P0_1_ k_ ∨ P0_2_ k_) ∨ w.heap.size ≤ k_) ∧ some k_ ≠ (u3 : Value).ownBlock ∧ k_ ≠ gb110) k_ from fun k_ hk => ⟨(.inr (Nat.le_trans (below_size (by repeat (first | (with_reducible first | exact HB.out | apply below_alloc | apply pw_below_drewN | apply below_drew1 | refine below_set ?_ GE110.out) | exact HB.out))) hk)), Kd.fresh' (Kd.N_lt (by (with_reducible repeat (first | apply Kd.N_alloc | apply Kd.N_drewN | apply Kd.N_drew)); exact HO_3.out)) k_ hk, Kd.freshB (g := gb110) (o := .cells #[.slice A0_0 l0_0.length c0_0, .slice A0_1 l0_1.length c0_1, .slice A0_2 l0_2.length c0_2] 35 (0, 0)) (by (with_reducible repeat (first | refine blk_drewN ?_ _ | refine blk_drew ?_ | refine blk_alloc ?_ _)); exact BK110.out) k_ hk⟩) _ (Nat.le_refl _)) (Below.refl _ _) (Nat.le_refl _) (by simp) ?_; (case hd => rfl); (case hg => rfl); (case hr => first | (go_simp; done) | (go_simp; rfl)); (case hp => exact (Reps.one (show Kd.FK (Kd.slice 3 (Kd.int .i64)) _ _ l0_1 [.slice A0_1 l0_1.length c0_1] from (Kd.FK_slice_mk (Kd.V_reads' (Kd.V_mono (ok' := (fun k_ => ((P0_0_ k_ ∨ P0_1_ k_ ∨ P0_2_ k_) ∨ w.heap.size ≤ k_) ∧ some k_ ≠ (u3 : Value).ownBlock ∧ k_ ≠ gb110)) (HO_111001.out) (fun k_ hk => ⟨hk.1, ⟨hk.2.1, hk.2.2⟩⟩))).2.1 (Kd.V_F (Kd.V_mono (ok' := (fun k_ => ((P0_0_ k_ ∨ P0_1_ k_ ∨ P0_2_ k_) ∨ w.heap.size ≤ k_) ∧ some k_ ≠ (u3 : Value).ownBlock ∧ k_ ≠ gb110)) (HO_111001.out) (fun k_ hk => ⟨hk.1, ⟨hk.2.1, hk.2.2⟩⟩))))) (Reps.one (show Kd.FK (Kd.slice 3 (Kd.int .i64)) _ _ l0_2 [.slice A0_2 l0_2.length c0_2] from (Kd.FK_slice_mk (Kd.V_reads' (Kd.V_mono (ok' := (fun k_ => ((P0_0_ k_ ∨ P0_1_ k_ ∨ P0_2_ k_) ∨ w.heap.size ≤ k_) ∧ some k_ ≠ (u3 : Value).ownBlock ∧ k_ ≠ gb110)) (HO_111002.out) (fun k_ hk => ⟨hk.1, ⟨hk.2.1, hk.2.2⟩⟩))).2.1 (Kd.V_F (Kd.V_mono (ok' := (fun k_ => ((P0_0_ k_ ∨ P0_1_ k_ ∨ P0_2_ k_) ∨ w.heap.size ≤ k_) ∧ some k_ ≠ (u3 : Value).ownBlock ∧ k_ ≠ gb110)) (HO_111002.out) (fun k_ hk => ⟨hk.1, ⟨hk.2.1, hk.2.2⟩⟩))))) (Reps.none _ _)))); intro v116 w10 ho11 hb hg_ hnew_; clear hg_ hnew_; (first | rw [← Ny115.out] at ho11 | (simp only [Int.reduceToNat] at ho11; rw [← Ny115.out] at ho11)); have n0_ := Aside0.mk (Kd.N_elder' (by (with_reducible repeat (first | apply Kd.N_alloc | apply Kd.N_drewN | apply Kd.N_drew)); exact HO_3.out) (Kd.N_base ho11) hb); have n1_ := Aside0.mk (Kd.V_elder' (by (with_reducible repeat (first | apply Kd.V_alloc | apply Kd.V_drewN | apply Kd.V_drew)); exact HO_111000.out) (Kd.N_base ho11) hb); have n2_ := Aside0.mk (Kd.V_elder' (by (with_reducible repeat (first | apply Kd.V_alloc | apply Kd.V_drewN | apply Kd.V_drew)); exact HO_111001.out) (Kd.N_base ho11) hb); have n3_ := Aside0.mk (Kd.V_elder' (by (with_reducible repeat (first | apply Kd.V_alloc | apply Kd.V_drewN | apply Kd.V_drew)); exact HO_111002.out) (Kd.N_base ho11) hb); have n4_ := Aside0.mk (Kd.N_lower ho11 (below_size (by repeat (first | (with_reducible first | exact HB.out | apply below_alloc | apply pw_below_drewN | apply below_drew1 | refine below_set ?_ GE110.out) | exact HB.out)))); have n5_ := Aside0.mk (blk_below (g := gb110) (o := .cells #[.slice A0_0 l0_0.length c0_0, .slice A0_1 l0_1.length c0_1, .slice A0_2 l0_2.length c0_2] 35 (0, 0)) (by (with_reducible repeat (first | refine blk_drewN ?_ _ | refine blk_drew ?_ | refine blk_alloc ?_ _)); exact BK110.out) hb); have n6_ := Aside0.mk (below_step (by repeat (first | (with_reducible first | exact HB.out | apply below_alloc | apply pw_below_drewN | apply below_drew1 | refine below_set ?_ GE110.out) | exact HB.out)) hb); clear HO_3; clear HO_111000; clear HO_111001; clear HO_111002; clear BK110; clear HB; have HO_3 := n0_; have HO_111000 := n1_; have HO_111001 := n2_; have HO_111002 := n3_; have HO117 := n4_; have BK110 := n5_; have HB := n6_; clear n0_ n1_ n2_ n3_ n4_ n5_ n6_; clear hb ho11; obtain ⟨Ao13, co13, eo13⟩ := Kd.N_slice HO117.out; subst eo13) | ((with_reducible refine gate_builtin (b := .append) (xs := #[.tmp 20, .tmp 25]) rfl ?_); at_builtin; refine Kd.N_append_rows (Kd.slice 3 (Kd.int .i64)) (w0 := w) w.heap.size rfl (.tmp 20) (.tmp 25) 32 33 (.slice none 0 0) 24 rfl Try.underlying32 info33 rfl (by decide) (by omega) u3 x3_1 y115 _ _ _ (fun k_ => ((P0_0_ k_ ∨ P0_1_ k_ ∨ P0_2_ k_) ∨ w.heap.size ≤ k_) ∧ k_ ≠ gb110) (fun k_ => ((fun k_ => ((P0_0_ k_ ∨ P0_1_ k_ ∨ P0_2_ k_) ∨ w.heap.size ≤ k_) ∧ k_ ≠ gb110)) k_ ∧ some k_ ≠ (u3 : Value).ownBlock) rfl rfl ?aO ?aR (fun _ hk => hk) ?aF ?aB ?aS ?aL ?_; (case aR => exact (by skip; exact Kd.N_F (Kd.N_mono (ok' := (fun k_ => ((fun k_ => ((P0_0_ k_ ∨ P0_1_ k_ ∨ P0_2_ k_) ∨ w.heap.size ≤ k_) ∧ k_ ≠ gb110)) k_ ∧ some k_ ≠ (u3 : Value).ownBlock)) (HO117.out) (fun k_ hk => ⟨⟨hk.1, hk.2.2⟩, hk.2.1⟩)))); (case aB => exact (by repeat (first | (with_reducible first | exact HB.out | apply below_alloc | apply pw_below_drewN | apply below_drew1 | refine below_set ?_ GE110.out) | exact HB.out))); (case aF => exact (fun k_ hk => ⟨(.inr (Nat.le_trans (below_size (by repeat (first | (with_reducible first | exact HB.out | apply below_alloc | apply pw_below_drewN | apply below_drew1 | refine below_set ?_ GE110.out) | exact HB.out))) hk)), Kd.freshB (g := gb110) (o := .cells #[.slice A0_0 l0_0.length c0_0, .slice A0_1 l0_1.length c0_1, .slice A0_2 l0_2.length c0_2] 35 (0, 0)) (by (with_reducible repeat (first | refine blk_drewN ?_ _ | refine blk_drew ?_ | refine blk_alloc ?_ _)); exact BK110.out) k_ hk⟩)); (case aO => exact (by (with_reducible repeat (first | apply Kd.N_alloc | apply Kd.N_drewN | apply Kd.N_drew)); exact Kd.N_mono HO_3.out (fun _ hk => ⟨hk.1.1, hk.1.2⟩))); (case aS => exact (below_size (by repeat (first | (with_reducible first | exact HB.out | apply below_alloc | apply pw_below_drewN | apply below_drew1 | refine below_set ?_ GE110.out) | exact HB.out)))); (case aL => have := LMc8.out; omega); intro v119 w12 ho hb hg hat; rw [← Ny118.out] at ho; have n0_ := Aside0.mk (Kd.V_afterv (ok := (fun k_ => ((P0_0_ k_ ∨ P0_1_ k_ ∨ P0_2_ k_) ∨ w.heap.size ≤ k_) ∧ some k_ ≠ (.slice Ao13 y115.length co13 : Value).ownBlock ∧ k_ ≠ gb110)) (by (with_reducible repeat (first | apply Kd.V_alloc | apply Kd.V_drewN | apply Kd.V_drew)); exact Kd.V_mono HO_111000.out (fun _ hk => ⟨⟨hk.1.1, ⟨hk.2, hk.1.2.2⟩⟩, hk.1.2.1⟩)) hg hat); have n1_ := Aside0.mk (Kd.V_afterv (ok := (fun k_ => ((P0_0_ k_ ∨ P0_1_ k_ ∨ P0_2_ k_) ∨ w.heap.size ≤ k_) ∧ some k_ ≠ (.slice Ao13 y115.length co13 : Value).ownBlock ∧ k_ ≠ gb110)) (by (with_reducible repeat (first | apply Kd.V_alloc | apply Kd.V_drewN | apply Kd.V_drew)); exact Kd.V_mono HO_111001.out (fun _ hk => ⟨⟨hk.1.1, ⟨hk.2, hk.1.2.2⟩⟩, hk.1.2.1⟩)) hg hat); have n2_ := Aside0.mk (Kd.V_afterv (ok := (fun k_ => ((P0_0_ k_ ∨ P0_1_ k_ ∨ P0_2_ k_) ∨ w.heap.size ≤ k_) ∧ some k_ ≠ (.slice Ao13 y115.length co13 : Value).ownBlock ∧ k_ ≠ gb110)) (by (with_reducible repeat (first | apply Kd.V_alloc | apply Kd.V_drewN | apply Kd.V_drew)); exact Kd.V_mono HO_111002.out (fun _ hk => ⟨⟨hk.1.1, ⟨hk.2, hk.1.2.2⟩⟩, hk.1.2.1⟩)) hg hat); have n3_ := Aside0.mk (blk_grown (g := gb110) (o := .cells #[.slice A0_0 l0_0.length c0_0, .slice A0_1 l0_1.length c0_1, .slice A0_2 l0_2.length c0_2] 35 (0, 0)) (by (with_reducible repeat (first | refine blk_drewN ?_ _ | refine blk_drew ?_ | refine blk_alloc ?_ _)); exact BK110.out) hg (Kd.N_ne HO_3.out BK110.out (by decide))); have n4_ := Aside0.mk (Kd.N_afterv (ok := (fun k_ => ((P0_0_ k_ ∨ P0_1_ k_ ∨ P0_2_ k_) ∨ w.heap.size ≤ k_) ∧ k_ ≠ gb110)) (by (with_reducible repeat (first | apply Kd.N_alloc | apply Kd.N_drewN | apply Kd.N_drew)); exact Kd.N_mono HO117.out (fun _ hk => ⟨⟨hk.1, hk.2.2⟩, hk.2.1⟩)) hg hat); have n5_ := Aside0.mk (hb); have n6_ := Aside0.mk (ho); clear HO_111000; clear HO_111001; clear HO_111002; clear BK110; clear HO117; clear HB; clear HO_3; have HO_111000 := n0_; have HO_111001 := n1_; have HO_111002 := n2_; have BK110 := n3_; have HO117 := n4_; have HB := n5_; have HO120 := n6_; clear n0_ n1_ n2_ n3_ n4_ n5_ n6_; clear ho hb hg hat))
          go_ret
          exact ⟨_, by first | rfl | (simp [errW_none, errW_some] <;> rfl) | (simp [*, errW_none, errW_some] <;> rfl), by (with_reducible repeat (first | apply Kd.N_alloc | apply Kd.N_drewN | apply Kd.N_drew)); exact Kd.N_mono HO120.out (fun _ hk => hk.1), by repeat (first | (with_reducible first | exact HB.out | apply below_alloc | apply pw_below_drewN | apply below_drew1 | refine below_set ?_ GE110.out) | exact HB.out)⟩
        · rw [if_neg c8] at H
          exact absurd H (by simp)
end Go.Proofs.Ytgcdeablfoomhaa.PAll
end
section
namespace Go.Proofs.Ytgcdeablfoomhaa.PAll
open Go.RowKit Go.Proofs.YtgcdeablfoomhaaW.PrintWords Go.Proofs.YtgcdeablfoomhaaW.PrintLast Go.Proofs.YtgcdeablfoomhaaW.PrintMore
attribute [local go_sem] max2_int min2_int max_two min_two max_three min_three max_four min_four   -- for this text's walks alone
set_option linter.unusedVariables false
set_option linter.unusedSimpArgs false
def enumerate_lists.f (l0_0 : List (List Int)) (l0_1 : List Int) (l0_2 : List Int) : Option ((List (List Int))) := (some (([] : List (List Int)) : List (List Int))).bind fun y132 => (if y132.length + l0_0.length < 5864062014805 then ((some (y132 ++ l0_0 : List (List Int))).bind fun y135 => ((some (([l0_1, l0_2] : List (List Int)) : List (List Int))).bind fun y138 => (if y135.length + y138.length < 5864062014805 then (some (y135 ++ y138)) else (none)))) else (none))
def enumerate_lists.T1 : Bool × List (List Nat × List Nat) := (true, [([], []), ([], []), ([1], [1]), ([0, 2], [0, 2]), ([], []), ([4], [4]), ([], []), ([6], [6]), ([5, 7], [5, 7]), ([3, 8, 3], [3, 8]), ([9, 9, 0, 1, 2, 3, 4, 5, 6, 7, 8, 9], [9])])
def enumerate_lists.B1 : List Nat := [0, 0, 2, 7, 0, 16, 0, 64, 240, 511, 1023]
theorem enumerate_lists.tab1 : rtab .any (opsOf Try.f35 1) = enumerate_lists.T1 := by kernel_rfl
theorem enumerate_lists.bits1 : waitsOk enumerate_lists.T1.2 enumerate_lists.B1 = true := by kernel_rfl
set_option maxHeartbeats 8000000 in
set_option maxRecDepth 100000 in
theorem enumerate_lists.calls (P0_0_ : Nat → Prop) (A0_0 : Option Addr) (c0_0 : Nat) (l0_0 : List (List Int)) (P0_1_ : Nat → Prop) (A0_1 : Option Addr) (c0_1 : Nat) (l0_1 : List Int) (P0_2_ : Nat → Prop) (A0_2 : Option Addr) (c0_2 : Nat) (l0_2 : List Int) (r : List (List Int)) (w : World) (hs0_0 : Kd.V (Kd.slice 3 (Kd.int .i64)) 33 w w.heap.size (fun k_ => P0_0_ k_) (.slice A0_0 l0_0.length c0_0) l0_0) (hs0_1 : Kd.V (Kd.int .i64) 3 w w.heap.size (fun k_ => P0_1_ k_) (.slice A0_1 l0_1.length c0_1) l0_1) (hs0_2 : Kd.V (Kd.int .i64) 3 w w.heap.size (fun k_ => P0_2_ k_) (.slice A0_2 l0_2.length c0_2) l0_2) (h : enumerate_lists.f l0_0 l0_1 l0_2 = some r) :
    Calls Try.prog 35 #[.agg #[.slice A0_0 l0_0.length c0_0, .slice A0_1 l0_1.length c0_1, .slice A0_2 l0_2.length c0_2]] w fun e w' => ∃ v0_ : Value, e = .returned (v0_) ∧ Kd.N (Kd.slice 3 (Kd.int .i64)) 33 w' w.heap.size (fun k_ => ((P0_0_ k_ ∨ P0_1_ k_ ∨ P0_2_ k_) ∨ w.heap.size ≤ k_)) v0_ r ∧ Below w.heap.size w w' := by
  have hu35 := Try.underlying35
  have HO0_0 := Aside0.mk (show Kd.V (Kd.slice 3 (Kd.int .i64)) 33 w w.heap.size (fun k_ => ((P0_0_ k_ ∨ P0_1_ k_ ∨ P0_2_ k_) ∨ w.heap.size ≤ k_)) (.slice A0_0 l0_0.length c0_0) l0_0 from Kd.V_mono hs0_0 (fun k_ hk => .inl (.inl hk)))
  have HO0_1 := Aside0.mk (show Kd.V (Kd.int .i64) 3 w w.heap.size (fun k_ => ((P0_0_ k_ ∨ P0_1_ k_ ∨ P0_2_ k_) ∨ w.heap.size ≤ k_)) (.slice A0_1 l0_1.length c0_1) l0_1 from Kd.V_mono hs0_1 (fun k_ hk => .inl (.inr (.inl hk))))
  have HO0_2 := Aside0.mk (show Kd.V (Kd.int .i64) 3 w w.heap.size (fun k_ => ((P0_0_ k_ ∨ P0_1_ k_ ∨ P0_2_ k_) ∨ w.heap.size ≤ k_)) (.slice A0_2 l0_2.length c0_2) l0_2 from Kd.V_mono hs0_2 (fun k_ hk => .inl (.inr (.inr hk))))
  have HB := Aside0.mk (Below.refl w.heap.size w)
  have H : ((some (([] : List (List Int)) : List (List Int))).bind fun y132 => (if y132.length + l0_0.length < 5864062014805 then ((some (y132 ++ l0_0 : List (List Int))).bind fun y135 => ((some (([l0_1, l0_2] : List (List Int)) : List (List Int))).bind fun y138 => (if y135.length + y138.length < 5864062014805 then (some (y135 ++ y138)) else (none)))) else (none))) = some r := h
  clear h
  obtain ⟨y132, hy132⟩ : ∃ y_ : List (List Int), y_ = (([] : List (List Int))) := ⟨_, rfl⟩
  replace H : (if y132.length + l0_0.length < 5864062014805 then ((some (y132 ++ l0_0 : List (List Int))).bind fun y135 => ((some (([l0_1, l0_2] : List (List Int)) : List (List Int))).bind fun y138 => (if y135.length + y138.length < 5864062014805 then (some (y135 ++ y138)) else (none)))) else (none)) = some r := by first | (rw [hy132]; with_reducible exact H) | (have H2_ := (Option.bind_some _ _).symm.trans H; rw [hy132]; with_reducible exact H2_) | (have H2_ := (Option.bind_some _ _).symm.trans H; with_reducible exact H2_) | with_reducible exact H | (rw [hy132]; exact H) | exact H
  have Ny132 := Aside0.mk hy132
  clear hy132
  by_cases c2 : y132.length + l0_0.length < 5864062014805
  · rw [if_pos c2] at H
    have LMc2 := Aside0.mk c2
    clear c2
    obtain ⟨y135, hy135⟩ : ∃ y_ : List (List Int), y_ = (y132 ++ l0_0) := ⟨_, rfl⟩
    replace H : ((some (([l0_1, l0_2] : List (List Int)) : List (List Int))).bind fun y138 => (if y135.length + y138.length < 5864062014805 then (some (y135 ++ y138)) else (none))) = some r := by first | (rw [hy135]; with_reducible exact H) | (have H2_ := (Option.bind_some _ _).symm.trans H; rw [hy135]; with_reducible exact H2_) | (have H2_ := (Option.bind_some _ _).symm.trans H; with_reducible exact H2_) | with_reducible exact H | (rw [hy135]; exact H) | exact H
    have Ny135 := Aside0.mk hy135
    clear hy135
    obtain ⟨y138, hy138⟩ : ∃ y_ : List (List Int), y_ = (([l0_1, l0_2] : List (List Int))) := ⟨_, rfl⟩
    replace H : (if y135.length + y138.length < 5864062014805 then (some (y135 ++ y138)) else (none)) = some r := by first | (rw [hy138]; with_reducible exact H) | (have H2_ := (Option.bind_some _ _).symm.trans H; rw [hy138]; with_reducible exact H2_) | (have H2_ := (Option.bind_some _ _).symm.trans H; with_reducible exact H2_) | with_reducible exact H | (rw [hy138]; exact H) | exact H
    have Ny138 := Aside0.mk hy138
    clear hy138
    by_cases c3 : y135.length + y138.length < 5864062014805
    · rw [if_pos c3] at H
      have LMc3 := Aside0.mk c3
      clear c3
      obtain ⟨y141, hy141⟩ : ∃ y_ : List (List Int), y_ = (y135 ++ y138) := ⟨_, rfl⟩
      replace H : (some y141) = some r := by first | (rw [hy141]; with_reducible exact H) | (have H2_ := (Option.bind_some _ _).symm.trans H; rw [hy141]; with_reducible exact H2_) | (have H2_ := (Option.bind_some _ _).symm.trans H; with_reducible exact H2_) | with_reducible exact H | (rw [hy141]; exact H) | exact H
      have Ny141 := Aside0.mk hy141
      clear hy141
      obtain rfl := Option.some.inj H
      go_enter Try.func35, Try.ntmps35
      try go_wp2_with (first | ((with_reducible refine gate_dst (N := 1) rfl ?_); refine box_event ?hg (N := 1) ?hd (cs := #[.slice A0_0 l0_0.length c0_0, .slice A0_1 l0_1.length c0_1, .slice A0_2 l0_2.length c0_2]) (t := 35) ?hr ?_; (case hd => rfl); (case hg => rfl); (case hr => first | (go_simp; done) | (go_simp; rfl)); intro gb131 hg w4 hbox hb; have n0_ := Aside0.mk (Kd.V_below (Kd.V_elderB (by (with_reducible repeat (first | apply Kd.V_alloc | apply Kd.V_drewN | apply Kd.V_drew)); exact HO0_0.out) gb131 (Nat.le_of_eq hg.symm)) hb); have n1_ := Aside0.mk (Kd.V_below (Kd.V_elderB (by (with_reducible repeat (first | apply Kd.V_alloc | apply Kd.V_drewN | apply Kd.V_drew)); exact HO0_1.out) gb131 (Nat.le_of_eq hg.symm)) hb); have n2_ := Aside0.mk (Kd.V_below (Kd.V_elderB (by (with_reducible repeat (first | apply Kd.V_alloc | apply Kd.V_drewN | apply Kd.V_drew)); exact HO0_2.out) gb131 (Nat.le_of_eq hg.symm)) hb); have n3_ := Aside0.mk (below_step (by repeat (first | (with_reducible first | exact HB.out | apply below_alloc | apply pw_below_drewN | apply below_drew1) | exact HB.out)) hb); have n4_ := Aside0.mk (hbox); have n5_ := Aside0.mk ((by rw [hg]; exact (below_size (by repeat (first | (with_reducible first | exact HB.out | apply below_alloc | apply pw_below_drewN | apply below_drew1) | exact HB.out))) : w.heap.size ≤ gb131)); have n6_ := Aside0.mk ((by rw [hg]; exact (below_size (by repeat (first | (with_reducible first | exact HB.out | apply below_alloc | apply pw_below_drewN | apply below_drew1) | exact HB.out))) : w.heap.size ≤ gb131)); clear HO0_0; clear HO0_1; clear HO0_2; clear HB; have HO0_0 := n0_; have HO0_1 := n1_; have HO0_2 := n2_; have HB := n3_; have BK131 := n4_; have GW131 := n5_; have GE131 := n6_; clear n0_ n1_ n2_ n3_ n4_ n5_ n6_; clear hb hbox hg))
      have n0_ := Aside0.mk (Kd.V_drew HO0_0.out)
      have n1_ := Aside0.mk (Kd.V_drew HO0_1.out)
      have n2_ := Aside0.mk (Kd.V_drew HO0_2.out)
      have n3_ := Aside0.mk (blk_drew BK131.out)
      have n4_ := Aside0.mk (below_drew1 HB.out)
      clear HO0_0
      clear HO0_1
      clear HO0_2
      clear BK131
      clear HB
      have HO0_0 := n0_
      have HO0_1 := n1_
      have HO0_2 := n2_
      have BK131 := n3_
      have HB := n4_
      clear n0_ n1_ n2_ n3_ n4_
      refine start_ (n := 11) (S := fun w' => w'.cell? ⟨gb131, 0, none⟩ = some (.slice A0_0 l0_0.length c0_0) ∧ w'.cell? ⟨gb131, 1, none⟩ = some (.slice A0_1 l0_1.length c0_1) ∧ w'.cell? ⟨gb131, 2, none⟩ = some (.slice A0_2 l0_2.length c0_2)) (ds := []) #[false, false, false, false, false, false, false, false, false, false, false] (by kernel_rfl) rfl rfl ⟨(blk_cell BK131.out 0).trans rfl, (blk_cell BK131.out 1).trans rfl, (blk_cell BK131.out 2).trans rfl⟩ (fun hHeld => ?_); refine with_tabW enumerate_lists.tab1 enumerate_lists.bits1 (fun HT_ HW_ => ?_)
      generalize w4.drew = w5 at HO0_0 HO0_1 HO0_2 BK131 HB hHeld ⊢
      refine pure_ (i := 1) (N := some 4) (v := ?_) (a' := ?_) #[false, true, false, false, false, false, false, false, false, false, false] rfl rfl (any_of HT_.out (by kernel_rfl)) (fun _ _ _ h => h) (Or.inl ⟨by rfl, ?_⟩) ?_ ?_
      rotate_left
      · intro w'
        go_simp
        with_reducible rfl
      rotate_left
      · simp only [Act.put, List.setIfInBounds_toArray, List.set_cons_zero, List.set_cons_succ, i64_w, i32_w]
        rfl
      refine pure_ (i := 4) (N := some 7) (v := ?_) (a' := ?_) #[false, true, false, false, true, false, false, false, false, false, false] rfl rfl (any_of HT_.out (by kernel_rfl)) (fun _ _ _ h => h) (Or.inl ⟨by rfl, ?_⟩) ?_ ?_
      rotate_left
      · intro w'
        go_simp
        with_reducible rfl
      rotate_left
      · simp only [Act.put, List.setIfInBounds_toArray, List.set_cons_zero, List.set_cons_succ, i64_w, i32_w]
        rfl
      refine pure_ (i := 6) (N := some 9) (v := ?_) (a' := ?_) #[false, true, false, false, true, false, true, false, false, false, false] rfl rfl (any_of HT_.out (by kernel_rfl)) (fun _ _ _ h => h) (Or.inl ⟨by rfl, ?_⟩) ?_ ?_
      rotate_left
      · intro w'
        go_simp
        with_reducible rfl
      rotate_left
      · simp only [Act.put, List.setIfInBounds_toArray, List.set_cons_zero, List.set_cons_succ, i64_w, i32_w]
        rfl
      refine take_ (i := 2) (N := some 5) (v := ?_) (a' := ?_) #[false, true, true, false, true, false, true, false, false, false, false] rfl rfl (take_ofW HT_.out HW_.out (by kernel_rfl)) (fun _ _ _ h => h) (Or.inl ⟨by rfl, ?_⟩) hHeld ?_ ?_
      rotate_left
      · rintro w' ⟨s0, s1, s2⟩
        go_simp
        with_reducible rfl
      rotate_left
      · simp only [Act.put, List.setIfInBounds_toArray, List.set_cons_zero, List.set_cons_succ, i64_w, i32_w]
        rfl
      refine take_ (i := 5) (N := some 8) (v := ?_) (a' := ?_) #[false, true, true, false, true, true, true, false, false, false, false] rfl rfl (take_ofW HT_.out HW_.out (by kernel_rfl)) (fun _ _ _ h => h) (Or.inl ⟨by rfl, ?_⟩) hHeld ?_ ?_
      rotate_left
      · rintro w' ⟨s0, s1, s2⟩
        go_simp
        with_reducible rfl
      rotate_left
      · simp only [Act.put, List.setIfInBounds_toArray, List.set_cons_zero, List.set_cons_succ, i64_w, i32_w]
        rfl
      refine take_ (i := 7) (N := some 10) (v := ?_) (a' := ?_) #[false, true, true, false, true, true, true, true, false, false, false] rfl rfl (take_ofW HT_.out HW_.out (by kernel_rfl)) (fun _ _ _ h => h) (Or.inl ⟨by rfl, ?_⟩) hHeld ?_ ?_
      rotate_left
      · rintro w' ⟨s0, s1, s2⟩
        go_simp
        with_reducible rfl
      rotate_left
      · simp only [Act.put, List.setIfInBounds_toArray, List.set_cons_zero, List.set_cons_succ, i64_w, i32_w]
        rfl
      refine join_ (σ := Value × Value × Value) 2 #[true, true, true, true, true, true, true, true, true, false, false] (fun s_ => [(3, s_.1), (6, s_.2.1), (11, s_.2.2)]) (fun s_ w' => (w'.cell? ⟨gb131, 0, none⟩ = some (.slice A0_0 l0_0.length c0_0) ∧ w'.cell? ⟨gb131, 1, none⟩ = some (.slice A0_1 l0_1.length c0_1) ∧ w'.cell? ⟨gb131, 2, none⟩ = some (.slice A0_2 l0_2.length c0_2)) ∧ (Kd.V (Kd.slice 3 (Kd.int .i64)) 33 w' w.heap.size (fun k_ => ((P0_0_ k_ ∨ P0_1_ k_ ∨ P0_2_ k_) ∨ w.heap.size ≤ k_) ∧ some k_ ≠ (s_.2.1 : Value).ownBlock ∧ some k_ ≠ (s_.2.2 : Value).ownBlock ∧ k_ ≠ gb131) (.slice A0_0 l0_0.length c0_0) l0_0) ∧ (Kd.V (Kd.int .i64) 3 w' w.heap.size (fun k_ => ((P0_0_ k_ ∨ P0_1_ k_ ∨ P0_2_ k_) ∨ w.heap.size ≤ k_) ∧ some k_ ≠ (s_.2.1 : Value).ownBlock ∧ some k_ ≠ (s_.2.2 : Value).ownBlock ∧ k_ ≠ gb131) (.slice A0_1 l0_1.length c0_1) l0_1) ∧ (Kd.V (Kd.int .i64) 3 w' w.heap.size (fun k_ => ((P0_0_ k_ ∨ P0_1_ k_ ∨ P0_2_ k_) ∨ w.heap.size ≤ k_) ∧ some k_ ≠ (s_.2.1 : Value).ownBlock ∧ some k_ ≠ (s_.2.2 : Value).ownBlock ∧ k_ ≠ gb131) (.slice A0_2 l0_2.length c0_2) l0_2) ∧ (Kd.N (Kd.slice 3 (Kd.int .i64)) 33 w' w.heap.size (fun k_ => ((P0_0_ k_ ∨ P0_1_ k_ ∨ P0_2_ k_) ∨ w.heap.size ≤ k_) ∧ some k_ ≠ (s_.2.2 : Value).ownBlock ∧ k_ ≠ gb131) s_.2.1 y135) ∧ (Kd.N (Kd.slice 3 (Kd.int .i64)) 33 w' w.heap.size (fun k_ => ((P0_0_ k_ ∨ P0_1_ k_ ∨ P0_2_ k_) ∨ w.heap.size ≤ k_) ∧ some k_ ≠ (s_.2.1 : Value).ownBlock ∧ k_ ≠ gb131) s_.2.2 y138) ∧ (w'.heap[gb131]? = some (.cells #[.slice A0_0 l0_0.length c0_0, .slice A0_1 l0_1.length c0_1, .slice A0_2 l0_2.length c0_2] 35 (0, 0))) ∧ (Below w.heap.size w w')) ?_ ?_
      rotate_left
      · intro hCont
        refine two_ (i := 0) (j := 8) (Ni := some 3) (Nj := some 11) #[true, true, true, false, true, true, true, true, false, false, false] #[false, true, true, false, true, true, true, true, true, false, false] rfl rfl rfl rfl (two_of HT_.out (by kernel_rfl)) (by decide) (by decide) (fun K hK => ?_) (fun K hK => ?_)
        · skip
          refine Kd.N_lit_step (Kd.slice 3 (Kd.int .i64)) _ 33 ?hg (N' := 3) ?hd (xs := ([] : List (List Int))) (inner := []) (ok := (fun k_ => ((P0_0_ k_ ∨ P0_1_ k_ ∨ P0_2_ k_) ∨ w.heap.size ≤ k_) ∧ k_ ≠ gb131)) (okp := (fun k_ => ((P0_0_ k_ ∨ P0_1_ k_ ∨ P0_2_ k_) ∨ w.heap.size ≤ k_) ∧ k_ ≠ gb131)) ?hr ?hp (fun _ hk => hk) ((show ∀ k_, w5.heap.size ≤ k_ → (fun k_ => ((P0_0_ k_ ∨ P0_1_ k_ ∨ P0_2_ k_) ∨ w.heap.size ≤ k_) ∧ k_ ≠ gb131) k_ from fun k_ hk => ⟨(.inr (Nat.le_trans (below_size (by repeat (first | (with_reducible first | exact HB.out | apply below_alloc | apply pw_below_drewN | apply below_drew1 | refine below_set ?_ GE131.out) | exact HB.out))) hk)), Kd.freshB (g := gb131) (o := .cells #[.slice A0_0 l0_0.length c0_0, .slice A0_1 l0_1.length c0_1, .slice A0_2 l0_2.length c0_2] 35 (0, 0)) (by (with_reducible repeat (first | refine blk_drewN ?_ _ | refine blk_drew ?_ | refine blk_alloc ?_ _)); exact BK131.out) k_ hk⟩) _ (Nat.le_refl _)) (Below.refl _ _) (Nat.le_refl _) (by simp) ?_; (case hd => rfl); (case hg => rfl); (case hr => first | (go_simp; done) | (go_simp; rfl)); (case hp => exact (Reps.none _ _))
          intro v133 w6 ho7 hb hg_ hnew_
          clear hg_ hnew_
          (first | rw [← Ny132.out] at ho7 | (simp only [Int.reduceToNat] at ho7; rw [← Ny132.out] at ho7))
          have n0_ := Aside0.mk (Kd.V_elder' (by (with_reducible repeat (first | apply Kd.V_alloc | apply Kd.V_drewN | apply Kd.V_drew)); exact HO0_0.out) (Kd.N_base ho7) hb)
          have n1_ := Aside0.mk (Kd.V_elder' (by (with_reducible repeat (first | apply Kd.V_alloc | apply Kd.V_drewN | apply Kd.V_drew)); exact HO0_1.out) (Kd.N_base ho7) hb)
          have n2_ := Aside0.mk (Kd.V_elder' (by (with_reducible repeat (first | apply Kd.V_alloc | apply Kd.V_drewN | apply Kd.V_drew)); exact HO0_2.out) (Kd.N_base ho7) hb)
          have n3_ := Aside0.mk (Kd.N_lower ho7 (below_size (by repeat (first | (with_reducible first | exact HB.out | apply below_alloc | apply pw_below_drewN | apply below_drew1 | refine below_set ?_ GE131.out) | exact HB.out))))
          have n4_ := Aside0.mk (blk_below (g := gb131) (o := .cells #[.slice A0_0 l0_0.length c0_0, .slice A0_1 l0_1.length c0_1, .slice A0_2 l0_2.length c0_2] 35 (0, 0)) (by (with_reducible repeat (first | refine blk_drewN ?_ _ | refine blk_drew ?_ | refine blk_alloc ?_ _)); exact BK131.out) hb)
          have n5_ := Aside0.mk (below_step (by repeat (first | (with_reducible first | exact HB.out | apply below_alloc | apply pw_below_drewN | apply below_drew1 | refine below_set ?_ GE131.out) | exact HB.out)) hb)
          clear HO0_0
          clear HO0_1
          clear HO0_2
          clear BK131
          clear HB
          have HO0_0 := n0_
          have HO0_1 := n1_
          have HO0_2 := n2_
          have HO134 := n3_
          have BK131 := n4_
          have HB := n5_
          clear n0_ n1_ n2_ n3_ n4_ n5_
          clear hb ho7
          refine hK.out _ _ ⟨(blk_cell BK131.out 0).trans rfl, (blk_cell BK131.out 1).trans rfl, (blk_cell BK131.out 2).trans rfl⟩ (fun hHeld => ?_)
          clear hK K
          refine norm_ (a' := ?_) ?_ ?_
          rotate_left
          · show Act.put _ (some 3) _ = _
            simp only [Act.put, List.setIfInBounds_toArray, List.set_cons_zero, List.set_cons_succ, i64_w, i32_w]
            rfl
          refine two_ (i := 3) (j := 8) (Ni := some 6) (Nj := some 11) #[true, true, true, true, true, true, true, true, false, false, false] #[true, true, true, false, true, true, true, true, true, false, false] rfl rfl rfl rfl (two_of HT_.out (by kernel_rfl)) (by decide) (by decide) (fun K hK => ?_) (fun K hK => ?_)
          · skip
            refine Kd.N_append_rows_step (Kd.slice 3 (Kd.int .i64)) (w0 := w) w.heap.size (by rfl) (.tmp 3) (.tmp 5) 32 33 (.slice none 0 0) 24 rfl Try.underlying32 info33 rfl (by decide) (by omega) v133 y132 l0_0 _ _ _ (fun k_ => ((P0_0_ k_ ∨ P0_1_ k_ ∨ P0_2_ k_) ∨ w.heap.size ≤ k_) ∧ k_ ≠ gb131) (fun k_ => ((fun k_ => ((P0_0_ k_ ∨ P0_1_ k_ ∨ P0_2_ k_) ∨ w.heap.size ≤ k_) ∧ k_ ≠ gb131)) k_ ∧ some k_ ≠ (v133 : Value).ownBlock) rfl rfl ?aO ?aR (fun _ hk => hk) ?aF ?aB ?aS ?aL ?_
            (case aR => exact (by skip; exact Kd.V_F (Kd.V_mono (ok' := (fun k_ => ((fun k_ => ((P0_0_ k_ ∨ P0_1_ k_ ∨ P0_2_ k_) ∨ w.heap.size ≤ k_) ∧ k_ ≠ gb131)) k_ ∧ some k_ ≠ (v133 : Value).ownBlock)) (HO0_0.out) (fun k_ hk => ⟨⟨hk.1.1, hk.1.2⟩, hk.2⟩))))
            (case aB => exact (by repeat (first | (with_reducible first | exact HB.out | apply below_alloc | apply pw_below_drewN | apply below_drew1 | refine below_set ?_ GE131.out) | exact HB.out)))
            (case aF => exact (fun k_ hk => ⟨(.inr (Nat.le_trans (below_size (by repeat (first | (with_reducible first | exact HB.out | apply below_alloc | apply pw_below_drewN | apply below_drew1 | refine below_set ?_ GE131.out) | exact HB.out))) hk)), Kd.freshB (g := gb131) (o := .cells #[.slice A0_0 l0_0.length c0_0, .slice A0_1 l0_1.length c0_1, .slice A0_2 l0_2.length c0_2] 35 (0, 0)) (by (with_reducible repeat (first | refine blk_drewN ?_ _ | refine blk_drew ?_ | refine blk_alloc ?_ _)); exact BK131.out) k_ hk⟩))
            (case aO => exact (by (with_reducible repeat (first | apply Kd.N_alloc | apply Kd.N_drewN | apply Kd.N_drew)); exact HO134.out))
            (case aS => exact (below_size (by repeat (first | (with_reducible first | exact HB.out | apply below_alloc | apply pw_below_drewN | apply below_drew1 | refine below_set ?_ GE131.out) | exact HB.out))))
            (case aL => have := LMc2.out; omega)
            intro v136 w8 ho hb hg hat
            rw [← Ny135.out] at ho
            have n0_ := Aside0.mk (Kd.V_afterv (ok := (fun k_ => ((P0_0_ k_ ∨ P0_1_ k_ ∨ P0_2_ k_) ∨ w.heap.size ≤ k_) ∧ k_ ≠ gb131)) (by (with_reducible repeat (first | apply Kd.V_alloc | apply Kd.V_drewN | apply Kd.V_drew)); exact HO0_0.out) hg hat)
            have n1_ := Aside0.mk (Kd.V_afterv (ok := (fun k_ => ((P0_0_ k_ ∨ P0_1_ k_ ∨ P0_2_ k_) ∨ w.heap.size ≤ k_) ∧ k_ ≠ gb131)) (by (with_reducible repeat (first | apply Kd.V_alloc | apply Kd.V_drewN | apply Kd.V_drew)); exact HO0_1.out) hg hat)
            have n2_ := Aside0.mk (Kd.V_afterv (ok := (fun k_ => ((P0_0_ k_ ∨ P0_1_ k_ ∨ P0_2_ k_) ∨ w.heap.size ≤ k_) ∧ k_ ≠ gb131)) (by (with_reducible repeat (first | apply Kd.V_alloc | apply Kd.V_drewN | apply Kd.V_drew)); exact HO0_2.out) hg hat)
            have n3_ := Aside0.mk (blk_grown (g := gb131) (o := .cells #[.slice A0_0 l0_0.length c0_0, .slice A0_1 l0_1.length c0_1, .slice A0_2 l0_2.length c0_2] 35 (0, 0)) (by (with_reducible repeat (first | refine blk_drewN ?_ _ | refine blk_drew ?_ | refine blk_alloc ?_ _)); exact BK131.out) hg (Kd.N_ne HO134.out BK131.out (by decide)))
            have n4_ := Aside0.mk (hb)
            have n5_ := Aside0.mk (ho)
            clear HO0_0
            clear HO0_1
            clear HO0_2
            clear BK131
            clear HB
            clear HO134
            have HO0_0 := n0_
            have HO0_1 := n1_
            have HO0_2 := n2_
            have BK131 := n3_
            have HB := n4_
            have HO137 := n5_
            clear n0_ n1_ n2_ n3_ n4_ n5_
            clear ho hb hg hat
            refine hK.out _ _ ⟨(blk_cell BK131.out 0).trans rfl, (blk_cell BK131.out 1).trans rfl, (blk_cell BK131.out 2).trans rfl⟩ (fun hHeld => ?_)
            clear hK K
            refine norm_ (a' := ?_) ?_ ?_
            rotate_left
            · show Act.put _ (some 6) _ = _
              simp only [Act.put, List.setIfInBounds_toArray, List.set_cons_zero, List.set_cons_succ, i64_w, i32_w]
              rfl
            refine one_ (i := 8) (N := some 11) #[true, true, true, true, true, true, true, true, true, false, false] rfl rfl (one_of HT_.out (by kernel_rfl)) (by decide) (fun K hK => ?_)
            refine Kd.N_lit_step (Kd.slice 3 (Kd.int .i64)) _ 33 ?hg (N' := 11) ?hd (xs := ([l0_1, l0_2] : List (List Int))) (inner := [.slice A0_1 l0_1.length c0_1, .slice A0_2 l0_2.length c0_2]) (ok := (fun k_ => ((P0_0_ k_ ∨ P0_1_ k_ ∨ P0_2_ k_) ∨ w.heap.size ≤ k_) ∧ some k_ ≠ (v136 : Value).ownBlock ∧ k_ ≠ gb131)) (okp := (fun k_ => ((P0_0_ k_ ∨ P0_1_ k_ ∨ P0_2_ k_) ∨ w.heap.size ≤ k_) ∧ some k_ ≠ (v136 : Value).ownBlock ∧ k_ ≠ gb131)) ?hr ?hp (fun _ hk => hk) ((show ∀ k_, w8.heap.size ≤ k_ → (fun k_ => ((P0_0_ k_ ∨ P0_1_ k_ ∨ P0_2_ k_) ∨ w.heap.size ≤ k_) ∧ some k_ ≠ (v136 : Value).ownBlock ∧ k_ ≠ gb131) k_ from fun k_ hk => ⟨(.inr (Nat.le_trans (below_size (by repeat (first | (with_reducible first | exact HB.out | apply below_alloc | apply pw_below_drewN | apply below_drew1 | refine below_set ?_ GE131.out) | exact HB.out))) hk)), Kd.fresh' (Kd.N_lt (by (with_reducible repeat (first | apply Kd.N_alloc | apply Kd.N_drewN | apply Kd.N_drew)); exact HO137.out)) k_ hk, Kd.freshB (g := gb131) (o := .cells #[.slice A0_0 l0_0.length c0_0, .slice A0_1 l0_1.length c0_1, .slice A0_2 l0_2.length c0_2] 35 (0, 0)) (by (with_reducible repeat (first | refine blk_drewN ?_ _ | refine blk_drew ?_ | refine blk_alloc ?_ _)); exact BK131.out) k_ hk⟩) _ (Nat.le_refl _)) (Below.refl _ _) (Nat.le_refl _) (by simp) ?_; (case hd => rfl); (case hg => rfl); (case hr => first | (go_simp; done) | (go_simp; rfl)); (case hp => exact (Reps.one (show Kd.FK (Kd.slice 3 (Kd.int .i64)) _ _ l0_1 [.slice A0_1 l0_1.length c0_1] from (Kd.FK_slice_mk (Kd.V_reads' (Kd.V_mono (ok' := (fun k_ => ((P0_0_ k_ ∨ P0_1_ k_ ∨ P0_2_ k_) ∨ w.heap.size ≤ k_) ∧ some k_ ≠ (v136 : Value).ownBlock ∧ k_ ≠ gb131)) (HO0_1.out) (fun k_ hk => ⟨hk.1.1, ⟨hk.2, hk.1.2⟩⟩))).2.1 (Kd.V_F (Kd.V_mono (ok' := (fun k_ => ((P0_0_ k_ ∨ P0_1_ k_ ∨ P0_2_ k_) ∨ w.heap.size ≤ k_) ∧ some k_ ≠ (v136 : Value).ownBlock ∧ k_ ≠ gb131)) (HO0_1.out) (fun k_ hk => ⟨hk.1.1, ⟨hk.2, hk.1.2⟩⟩))))) (Reps.one (show Kd.FK (Kd.slice 3 (Kd.int .i64)) _ _ l0_2 [.slice A0_2 l0_2.length c0_2] from (Kd.FK_slice_mk (Kd.V_reads' (Kd.V_mono (ok' := (fun k_ => ((P0_0_ k_ ∨ P0_1_ k_ ∨ P0_2_ k_) ∨ w.heap.size ≤ k_) ∧ some k_ ≠ (v136 : Value).ownBlock ∧ k_ ≠ gb131)) (HO0_2.out) (fun k_ hk => ⟨hk.1.1, ⟨hk.2, hk.1.2⟩⟩))).2.1 (Kd.V_F (Kd.V_mono (ok' := (fun k_ => ((P0_0_ k_ ∨ P0_1_ k_ ∨ P0_2_ k_) ∨ w.heap.size ≤ k_) ∧ some k_ ≠ (v136 : Value).ownBlock ∧ k_ ≠ gb131)) (HO0_2.out) (fun k_ hk => ⟨hk.1.1, ⟨hk.2, hk.1.2⟩⟩))))) (Reps.none _ _))))
            intro v139 w9 ho10 hb hg_ hnew_
            clear hg_ hnew_
            (first | rw [← Ny138.out] at ho10 | (simp only [Int.reduceToNat] at ho10; rw [← Ny138.out] at ho10))
            have n0_ := Aside0.mk (Kd.V_elder' (by (with_reducible repeat (first | apply Kd.V_alloc | apply Kd.V_drewN | apply Kd.V_drew)); exact HO0_0.out) (Kd.N_base ho10) hb)
            have n1_ := Aside0.mk (Kd.V_elder' (by (with_reducible repeat (first | apply Kd.V_alloc | apply Kd.V_drewN | apply Kd.V_drew)); exact HO0_1.out) (Kd.N_base ho10) hb)
            have n2_ := Aside0.mk (Kd.V_elder' (by (with_reducible repeat (first | apply Kd.V_alloc | apply Kd.V_drewN | apply Kd.V_drew)); exact HO0_2.out) (Kd.N_base ho10) hb)
            have n3_ := Aside0.mk (Kd.N_elder' (by (with_reducible repeat (first | apply Kd.N_alloc | apply Kd.N_drewN | apply Kd.N_drew)); exact HO137.out) (Kd.N_base ho10) hb)
            have n4_ := Aside0.mk (Kd.N_lower ho10 (below_size (by repeat (first | (with_reducible first | exact HB.out | apply below_alloc | apply pw_below_drewN | apply below_drew1 | refine below_set ?_ GE131.out) | exact HB.out))))
            have n5_ := Aside0.mk (blk_below (g := gb131) (o := .cells #[.slice A0_0 l0_0.length c0_0, .slice A0_1 l0_1.length c0_1, .slice A0_2 l0_2.length c0_2] 35 (0, 0)) (by (with_reducible repeat (first | refine blk_drewN ?_ _ | refine blk_drew ?_ | refine blk_alloc ?_ _)); exact BK131.out) hb)
            have n6_ := Aside0.mk (below_step (by repeat (first | (with_reducible first | exact HB.out | apply below_alloc | apply pw_below_drewN | apply below_drew1 | refine below_set ?_ GE131.out) | exact HB.out)) hb)
            clear HO0_0
            clear HO0_1
            clear HO0_2
            clear HO137
            clear BK131
            clear HB
            have HO0_0 := n0_
            have HO0_1 := n1_
            have HO0_2 := n2_
            have HO137 := n3_
            have HO140 := n4_
            have BK131 := n5_
            have HB := n6_
            clear n0_ n1_ n2_ n3_ n4_ n5_ n6_
            clear hb ho10
            refine hK.out _ _ ⟨(blk_cell BK131.out 0).trans rfl, (blk_cell BK131.out 1).trans rfl, (blk_cell BK131.out 2).trans rfl⟩ (fun hHeld => ?_)
            clear hK K
            refine norm_ (a' := ?_) ?_ ?_
            rotate_left
            · show Act.put _ (some 11) _ = _
              simp only [Act.put, List.setIfInBounds_toArray, List.set_cons_zero, List.set_cons_succ, i64_w, i32_w]
              rfl
            exact norm_ (by simp only [putAll, Act.put, List.setIfInBounds_toArray, List.set_cons_zero, List.set_cons_succ]) (hCont (v133, v136, v139) _ ⟨hHeld, (by (with_reducible repeat (first | apply Kd.V_alloc | apply Kd.V_drewN | apply Kd.V_drew)); exact Kd.V_mono HO0_0.out (fun _ hk => ⟨hk.1.1.1, ⟨hk.1.2, ⟨hk.2, hk.1.1.2⟩⟩⟩)), (by (with_reducible repeat (first | apply Kd.V_alloc | apply Kd.V_drewN | apply Kd.V_drew)); exact Kd.V_mono HO0_1.out (fun _ hk => ⟨hk.1.1.1, ⟨hk.1.2, ⟨hk.2, hk.1.1.2⟩⟩⟩)), (by (with_reducible repeat (first | apply Kd.V_alloc | apply Kd.V_drewN | apply Kd.V_drew)); exact Kd.V_mono HO0_2.out (fun _ hk => ⟨hk.1.1.1, ⟨hk.1.2, ⟨hk.2, hk.1.1.2⟩⟩⟩)), (by (with_reducible repeat (first | apply Kd.N_alloc | apply Kd.N_drewN | apply Kd.N_drew)); exact Kd.N_mono HO137.out (fun _ hk => ⟨hk.1.1, ⟨hk.2, hk.1.2⟩⟩)), (by (with_reducible repeat (first | apply Kd.N_alloc | apply Kd.N_drewN | apply Kd.N_drew)); exact HO140.out), (by (with_reducible repeat (first | refine blk_drewN ?_ _ | refine blk_drew ?_ | refine blk_alloc ?_ _)); exact BK131.out), (by repeat (first | (with_reducible first | exact HB.out | apply below_alloc | apply pw_below_drewN | apply below_drew1 | refine below_set ?_ GE131.out) | exact HB.out))⟩)
          · skip
            refine Kd.N_lit_step (Kd.slice 3 (Kd.int .i64)) _ 33 ?hg (N' := 11) ?hd (xs := ([l0_1, l0_2] : List (List Int))) (inner := [.slice A0_1 l0_1.length c0_1, .slice A0_2 l0_2.length c0_2]) (ok := (fun k_ => ((P0_0_ k_ ∨ P0_1_ k_ ∨ P0_2_ k_) ∨ w.heap.size ≤ k_) ∧ some k_ ≠ (v133 : Value).ownBlock ∧ k_ ≠ gb131)) (okp := (fun k_ => ((P0_0_ k_ ∨ P0_1_ k_ ∨ P0_2_ k_) ∨ w.heap.size ≤ k_) ∧ some k_ ≠ (v133 : Value).ownBlock ∧ k_ ≠ gb131)) ?hr ?hp (fun _ hk => hk) ((show ∀ k_, w6.heap.size ≤ k_ → (fun k_ => ((P0_0_ k_ ∨ P0_1_ k_ ∨ P0_2_ k_) ∨ w.heap.size ≤ k_) ∧ some k_ ≠ (v133 : Value).ownBlock ∧ k_ ≠ gb131) k_ from fun k_ hk => ⟨(.inr (Nat.le_trans (below_size (by repeat (first | (with_reducible first | exact HB.out | apply below_alloc | apply pw_below_drewN | apply below_drew1 | refine below_set ?_ GE131.out) | exact HB.out))) hk)), Kd.fresh' (Kd.N_lt (by (with_reducible repeat (first | apply Kd.N_alloc | apply Kd.N_drewN | apply Kd.N_drew)); exact HO134.out)) k_ hk, Kd.freshB (g := gb131) (o := .cells #[.slice A0_0 l0_0.length c0_0, .slice A0_1 l0_1.length c0_1, .slice A0_2 l0_2.length c0_2] 35 (0, 0)) (by (with_reducible repeat (first | refine blk_drewN ?_ _ | refine blk_drew ?_ | refine blk_alloc ?_ _)); exact BK131.out) k_ hk⟩) _ (Nat.le_refl _)) (Below.refl _ _) (Nat.le_refl _) (by simp) ?_; (case hd => rfl); (case hg => rfl); (case hr => first | (go_simp; done) | (go_simp; rfl)); (case hp => exact (Reps.one (show Kd.FK (Kd.slice 3 (Kd.int .i64)) _ _ l0_1 [.slice A0_1 l0_1.length c0_1] from (Kd.FK_slice_mk (Kd.V_reads' (Kd.V_mono (ok' := (fun k_ => ((P0_0_ k_ ∨ P0_1_ k_ ∨ P0_2_ k_) ∨ w.heap.size ≤ k_) ∧ some k_ ≠ (v133 : Value).ownBlock ∧ k_ ≠ gb131)) (HO0_1.out) (fun k_ hk => ⟨hk.1.1, ⟨hk.2, hk.1.2⟩⟩))).2.1 (Kd.V_F (Kd.V_mono (ok' := (fun k_ => ((P0_0_ k_ ∨ P0_1_ k_ ∨ P0_2_ k_) ∨ w.heap.size ≤ k_) ∧ some k_ ≠ (v133 : Value).ownBlock ∧ k_ ≠ gb131)) (HO0_1.out) (fun k_ hk => ⟨hk.1.1, ⟨hk.2, hk.1.2⟩⟩))))) (Reps.one (show Kd.FK (Kd.slice 3 (Kd.int .i64)) _ _ l0_2 [.slice A0_2 l0_2.length c0_2] from (Kd.FK_slice_mk (Kd.V_reads' (Kd.V_mono (ok' := (fun k_ => ((P0_0_ k_ ∨ P0_1_ k_ ∨ P0_2_ k_) ∨ w.heap.size ≤ k_) ∧ some k_ ≠ (v133 : Value).ownBlock ∧ k_ ≠ gb131)) (HO0_2.out) (fun k_ hk => ⟨hk.1.1, ⟨hk.2, hk.1.2⟩⟩))).2.1 (Kd.V_F (Kd.V_mono (ok' := (fun k_ => ((P0_0_ k_ ∨ P0_1_ k_ ∨ P0_2_ k_) ∨ w.heap.size ≤ k_) ∧ some k_ ≠ (v133 : Value).ownBlock ∧ k_ ≠ gb131)) (HO0_2.out) (fun k_ hk => ⟨hk.1.1, ⟨hk.2, hk.1.2⟩⟩))))) (Reps.none _ _))))
            intro v139 w8 ho9 hb hg_ hnew_
            clear hg_ hnew_
            (first | rw [← Ny138.out] at ho9 | (simp only [Int.reduceToNat] at ho9; rw [← Ny138.out] at ho9))
            have n0_ := Aside0.mk (Kd.V_elder' (by (with_reducible repeat (first | apply Kd.V_alloc | apply Kd.V_drewN | apply Kd.V_drew)); exact HO0_0.out) (Kd.N_base ho9) hb)
            have n1_ := Aside0.mk (Kd.V_elder' (by (with_reducible repeat (first | apply Kd.V_alloc | apply Kd.V_drewN | apply Kd.V_drew)); exact HO0_1.out) (Kd.N_base ho9) hb)
            have n2_ := Aside0.mk (Kd.V_elder' (by (with_reducible repeat (first | apply Kd.V_alloc | apply Kd.V_drewN | apply Kd.V_drew)); exact HO0_2.out) (Kd.N_base ho9) hb)
            have n3_ := Aside0.mk (Kd.N_elder' (by (with_reducible repeat (first | apply Kd.N_alloc | apply Kd.N_drewN | apply Kd.N_drew)); exact HO134.out) (Kd.N_base ho9) hb)
            have n4_ := Aside0.mk (Kd.N_lower ho9 (below_size (by repeat (first | (with_reducible first | exact HB.out | apply below_alloc | apply pw_below_drewN | apply below_drew1 | refine below_set ?_ GE131.out) | exact HB.out))))
            have n5_ := Aside0.mk (blk_below (g := gb131) (o := .cells #[.slice A0_0 l0_0.length c0_0, .slice A0_1 l0_1.length c0_1, .slice A0_2 l0_2.length c0_2] 35 (0, 0)) (by (with_reducible repeat (first | refine blk_drewN ?_ _ | refine blk_drew ?_ | refine blk_alloc ?_ _)); exact BK131.out) hb)
            have n6_ := Aside0.mk (below_step (by repeat (first | (with_reducible first | exact HB.out | apply below_alloc | apply pw_below_drewN | apply below_drew1 | refine below_set ?_ GE131.out) | exact HB.out)) hb)
            clear HO0_0
            clear HO0_1
            clear HO0_2
            clear HO134
            clear BK131
            clear HB
            have HO0_0 := n0_
            have HO0_1 := n1_
            have HO0_2 := n2_
            have HO134 := n3_
            have HO140 := n4_
            have BK131 := n5_
            have HB := n6_
            clear n0_ n1_ n2_ n3_ n4_ n5_ n6_
            clear hb ho9
            refine hK.out _ _ ⟨(blk_cell BK131.out 0).trans rfl, (blk_cell BK131.out 1).trans rfl, (blk_cell BK131.out 2).trans rfl⟩ (fun hHeld => ?_)
            clear hK K
            refine norm_ (a' := ?_) ?_ ?_
            rotate_left
            · show Act.put _ (some 11) _ = _
              simp only [Act.put, List.setIfInBounds_toArray, List.set_cons_zero, List.set_cons_succ, i64_w, i32_w]
              rfl
            refine one_ (i := 3) (N := some 6) #[true, true, true, true, true, true, true, true, true, false, false] rfl rfl (one_of HT_.out (by kernel_rfl)) (by decide) (fun K hK => ?_)
            refine Kd.N_append_rows_step (Kd.slice 3 (Kd.int .i64)) (w0 := w) w.heap.size (by rfl) (.tmp 3) (.tmp 5) 32 33 (.slice none 0 0) 24 rfl Try.underlying32 info33 rfl (by decide) (by omega) v133 y132 l0_0 _ _ _ (fun k_ => ((P0_0_ k_ ∨ P0_1_ k_ ∨ P0_2_ k_) ∨ w.heap.size ≤ k_) ∧ some k_ ≠ (v139 : Value).ownBlock ∧ k_ ≠ gb131) (fun k_ => ((fun k_ => ((P0_0_ k_ ∨ P0_1_ k_ ∨ P0_2_ k_) ∨ w.heap.size ≤ k_) ∧ some k_ ≠ (v139 : Value).ownBlock ∧ k_ ≠ gb131)) k_ ∧ some k_ ≠ (v133 : Value).ownBlock) rfl rfl ?aO ?aR (fun _ hk => hk) ?aF ?aB ?aS ?aL ?_
            (case aR => exact (by skip; exact Kd.V_F (Kd.V_mono (ok' := (fun k_ => ((fun k_ => ((P0_0_ k_ ∨ P0_1_ k_ ∨ P0_2_ k_) ∨ w.heap.size ≤ k_) ∧ some k_ ≠ (v139 : Value).ownBlock ∧ k_ ≠ gb131)) k_ ∧ some k_ ≠ (v133 : Value).ownBlock)) (HO0_0.out) (fun k_ hk => ⟨⟨hk.1.1.1, ⟨hk.2, hk.1.1.2⟩⟩, hk.1.2⟩))))
            (case aB => exact (by repeat (first | (with_reducible first | exact HB.out | apply below_alloc | apply pw_below_drewN | apply below_drew1 | refine below_set ?_ GE131.out) | exact HB.out)))
            (case aF => exact (fun k_ hk => ⟨(.inr (Nat.le_trans (below_size (by repeat (first | (with_reducible first | exact HB.out | apply below_alloc | apply pw_below_drewN | apply below_drew1 | refine below_set ?_ GE131.out) | exact HB.out))) hk)), Kd.fresh' (Kd.N_lt (by (with_reducible repeat (first | apply Kd.N_alloc | apply Kd.N_drewN | apply Kd.N_drew)); exact HO140.out)) k_ hk, Kd.freshB (g := gb131) (o := .cells #[.slice A0_0 l0_0.length c0_0, .slice A0_1 l0_1.length c0_1, .slice A0_2 l0_2.length c0_2] 35 (0, 0)) (by (with_reducible repeat (first | refine blk_drewN ?_ _ | refine blk_drew ?_ | refine blk_alloc ?_ _)); exact BK131.out) k_ hk⟩))
            (case aO => exact (by (with_reducible repeat (first | apply Kd.N_alloc | apply Kd.N_drewN | apply Kd.N_drew)); exact Kd.N_mono HO134.out (fun _ hk => ⟨hk.1.1, ⟨hk.2, hk.1.2⟩⟩)))
            (case aS => exact (below_size (by repeat (first | (with_reducible first | exact HB.out | apply below_alloc | apply pw_below_drewN | apply below_drew1 | refine below_set ?_ GE131.out) | exact HB.out))))
            (case aL => have := LMc2.out; omega)
            intro v136 w10 ho hb hg hat
            rw [← Ny135.out] at ho
            have n0_ := Aside0.mk (Kd.V_afterv (ok := (fun k_ => ((P0_0_ k_ ∨ P0_1_ k_ ∨ P0_2_ k_) ∨ w.heap.size ≤ k_) ∧ some k_ ≠ (v139 : Value).ownBlock ∧ k_ ≠ gb131)) (by (with_reducible repeat (first | apply Kd.V_alloc | apply Kd.V_drewN | apply Kd.V_drew)); exact Kd.V_mono HO0_0.out (fun _ hk => ⟨⟨hk.1.1.1, ⟨hk.2, hk.1.1.2⟩⟩, hk.1.2⟩)) hg hat)
            have n1_ := Aside0.mk (Kd.V_afterv (ok := (fun k_ => ((P0_0_ k_ ∨ P0_1_ k_ ∨ P0_2_ k_) ∨ w.heap.size ≤ k_) ∧ some k_ ≠ (v139 : Value).ownBlock ∧ k_ ≠ gb131)) (by (with_reducible repeat (first | apply Kd.V_alloc | apply Kd.V_drewN | apply Kd.V_drew)); exact Kd.V_mono HO0_1.out (fun _ hk => ⟨⟨hk.1.1.1, ⟨hk.2, hk.1.1.2⟩⟩, hk.1.2⟩)) hg hat)
            have n2_ := Aside0.mk (Kd.V_afterv (ok := (fun k_ => ((P0_0_ k_ ∨ P0_1_ k_ ∨ P0_2_ k_) ∨ w.heap.size ≤ k_) ∧ some k_ ≠ (v139 : Value).ownBlock ∧ k_ ≠ gb131)) (by (with_reducible repeat (first | apply Kd.V_alloc | apply Kd.V_drewN | apply Kd.V_drew)); exact Kd.V_mono HO0_2.out (fun _ hk => ⟨⟨hk.1.1.1, ⟨hk.2, hk.1.1.2⟩⟩, hk.1.2⟩)) hg hat)
            have n3_ := Aside0.mk (blk_grown (g := gb131) (o := .cells #[.slice A0_0 l0_0.length c0_0, .slice A0_1 l0_1.length c0_1, .slice A0_2 l0_2.length c0_2] 35 (0, 0)) (by (with_reducible repeat (first | refine blk_drewN ?_ _ | refine blk_drew ?_ | refine blk_alloc ?_ _)); exact BK131.out) hg (Kd.N_ne HO134.out BK131.out (by decide)))
            have n4_ := Aside0.mk (Kd.N_afterv (ok := (fun k_ => ((P0_0_ k_ ∨ P0_1_ k_ ∨ P0_2_ k_) ∨ w.heap.size ≤ k_) ∧ k_ ≠ gb131)) (by (with_reducible repeat (first | apply Kd.N_alloc | apply Kd.N_drewN | apply Kd.N_drew)); exact Kd.N_mono HO140.out (fun _ hk => ⟨⟨hk.1, hk.2.2⟩, hk.2.1⟩)) hg hat)
            have n5_ := Aside0.mk (hb)
            have n6_ := Aside0.mk (ho)
            clear HO0_0
            clear HO0_1
            clear HO0_2
            clear BK131
            clear HO140
            clear HB
            clear HO134
            have HO0_0 := n0_
            have HO0_1 := n1_
            have HO0_2 := n2_
            have BK131 := n3_
            have HO140 := n4_
            have HB := n5_
            have HO137 := n6_
            clear n0_ n1_ n2_ n3_ n4_ n5_ n6_
            clear ho hb hg hat
            refine hK.out _ _ ⟨(blk_cell BK131.out 0).trans rfl, (blk_cell BK131.out 1).trans rfl, (blk_cell BK131.out 2).trans rfl⟩ (fun hHeld => ?_)
            clear hK K
            refine norm_ (a' := ?_) ?_ ?_
            rotate_left
            · show Act.put _ (some 6) _ = _
              simp only [Act.put, List.setIfInBounds_toArray, List.set_cons_zero, List.set_cons_succ, i64_w, i32_w]
              rfl
            exact norm_ (by simp only [putAll, Act.put, List.setIfInBounds_toArray, List.set_cons_zero, List.set_cons_succ]) (hCont (v133, v136, v139) _ ⟨hHeld, (by (with_reducible repeat (first | apply Kd.V_alloc | apply Kd.V_drewN | apply Kd.V_drew)); exact Kd.V_mono HO0_0.out (fun _ hk => ⟨hk.1.1, ⟨hk.2, ⟨hk.1.2.1, hk.1.2.2⟩⟩⟩)), (by (with_reducible repeat (first | apply Kd.V_alloc | apply Kd.V_drewN | apply Kd.V_drew)); exact Kd.V_mono HO0_1.out (fun _ hk => ⟨hk.1.1, ⟨hk.2, ⟨hk.1.2.1, hk.1.2.2⟩⟩⟩)), (by (with_reducible repeat (first | apply Kd.V_alloc | apply Kd.V_drewN | apply Kd.V_drew)); exact Kd.V_mono HO0_2.out (fun _ hk => ⟨hk.1.1, ⟨hk.2, ⟨hk.1.2.1, hk.1.2.2⟩⟩⟩)), (by (with_reducible repeat (first | apply Kd.N_alloc | apply Kd.N_drewN | apply Kd.N_drew)); exact HO137.out), (by (with_reducible repeat (first | apply Kd.N_alloc | apply Kd.N_drewN | apply Kd.N_drew)); exact Kd.N_mono HO140.out (fun _ hk => ⟨hk.1.1, ⟨hk.2, hk.1.2⟩⟩)), (by (with_reducible repeat (first | refine blk_drewN ?_ _ | refine blk_drew ?_ | refine blk_alloc ?_ _)); exact BK131.out), (by repeat (first | (with_reducible first | exact HB.out | apply below_alloc | apply pw_below_drewN | apply below_drew1 | refine below_set ?_ GE131.out) | exact HB.out))⟩)
        · skip
          refine Kd.N_lit_step (Kd.slice 3 (Kd.int .i64)) _ 33 ?hg (N' := 11) ?hd (xs := ([l0_1, l0_2] : List (List Int))) (inner := [.slice A0_1 l0_1.length c0_1, .slice A0_2 l0_2.length c0_2]) (ok := (fun k_ => ((P0_0_ k_ ∨ P0_1_ k_ ∨ P0_2_ k_) ∨ w.heap.size ≤ k_) ∧ k_ ≠ gb131)) (okp := (fun k_ => ((P0_0_ k_ ∨ P0_1_ k_ ∨ P0_2_ k_) ∨ w.heap.size ≤ k_) ∧ k_ ≠ gb131)) ?hr ?hp (fun _ hk => hk) ((show ∀ k_, w5.heap.size ≤ k_ → (fun k_ => ((P0_0_ k_ ∨ P0_1_ k_ ∨ P0_2_ k_) ∨ w.heap.size ≤ k_) ∧ k_ ≠ gb131) k_ from fun k_ hk => ⟨(.inr (Nat.le_trans (below_size (by repeat (first | (with_reducible first | exact HB.out | apply below_alloc | apply pw_below_drewN | apply below_drew1 | refine below_set ?_ GE131.out) | exact HB.out))) hk)), Kd.freshB (g := gb131) (o := .cells #[.slice A0_0 l0_0.length c0_0, .slice A0_1 l0_1.length c0_1, .slice A0_2 l0_2.length c0_2] 35 (0, 0)) (by (with_reducible repeat (first | refine blk_drewN ?_ _ | refine blk_drew ?_ | refine blk_alloc ?_ _)); exact BK131.out) k_ hk⟩) _ (Nat.le_refl _)) (Below.refl _ _) (Nat.le_refl _) (by simp) ?_; (case hd => rfl); (case hg => rfl); (case hr => first | (go_simp; done) | (go_simp; rfl)); (case hp => exact (Reps.one (show Kd.FK (Kd.slice 3 (Kd.int .i64)) _ _ l0_1 [.slice A0_1 l0_1.length c0_1] from (Kd.FK_slice_mk (Kd.V_reads' (Kd.V_mono (ok' := (fun k_ => ((P0_0_ k_ ∨ P0_1_ k_ ∨ P0_2_ k_) ∨ w.heap.size ≤ k_) ∧ k_ ≠ gb131)) (HO0_1.out) (fun k_ hk => ⟨hk.1, hk.2⟩))).2.1 (Kd.V_F (Kd.V_mono (ok' := (fun k_ => ((P0_0_ k_ ∨ P0_1_ k_ ∨ P0_2_ k_) ∨ w.heap.size ≤ k_) ∧ k_ ≠ gb131)) (HO0_1.out) (fun k_ hk => ⟨hk.1, hk.2⟩))))) (Reps.one (show Kd.FK (Kd.slice 3 (Kd.int .i64)) _ _ l0_2 [.slice A0_2 l0_2.length c0_2] from (Kd.FK_slice_mk (Kd.V_reads' (Kd.V_mono (ok' := (fun k_ => ((P0_0_ k_ ∨ P0_1_ k_ ∨ P0_2_ k_) ∨ w.heap.size ≤ k_) ∧ k_ ≠ gb131)) (HO0_2.out) (fun k_ hk => ⟨hk.1, hk.2⟩))).2.1 (Kd.V_F (Kd.V_mono (ok' := (fun k_ => ((P0_0_ k_ ∨ P0_1_ k_ ∨ P0_2_ k_) ∨ w.heap.size ≤ k_) ∧ k_ ≠ gb131)) (HO0_2.out) (fun k_ hk => ⟨hk.1, hk.2⟩))))) (Reps.none _ _))))
          intro v139 w6 ho7 hb hg_ hnew_
          clear hg_ hnew_
          (first | rw [← Ny138.out] at ho7 | (simp only [Int.reduceToNat] at ho7; rw [← Ny138.out] at ho7))
          have n0_ := Aside0.mk (Kd.V_elder' (by (with_reducible repeat (first | apply Kd.V_alloc | apply Kd.V_drewN | apply Kd.V_drew)); exact HO0_0.out) (Kd.N_base ho7) hb)
          have n1_ := Aside0.mk (Kd.V_elder' (by (with_reducible repeat (first | apply Kd.V_alloc | apply Kd.V_drewN | apply Kd.V_drew)); exact HO0_1.out) (Kd.N_base ho7) hb)
          have n2_ := Aside0.mk (Kd.V_elder' (by (with_reducible repeat (first | apply Kd.V_alloc | apply Kd.V_drewN | apply Kd.V_drew)); exact HO0_2.out) (Kd.N_base ho7) hb)
          have n3_ := Aside0.mk (Kd.N_lower ho7 (below_size (by repeat (first | (with_reducible first | exact HB.out | apply below_alloc | apply pw_below_drewN | apply below_drew1 | refine below_set ?_ GE131.out) | exact HB.out))))
          have n4_ := Aside0.mk (blk_below (g := gb131) (o := .cells #[.slice A0_0 l0_0.length c0_0, .slice A0_1 l0_1.length c0_1, .slice A0_2 l0_2.length c0_2] 35 (0, 0)) (by (with_reducible repeat (first | refine blk_drewN ?_ _ | refine blk_drew ?_ | refine blk_alloc ?_ _)); exact BK131.out) hb)
          have n5_ := Aside0.mk (below_step (by repeat (first | (with_reducible first | exact HB.out | apply below_alloc | apply pw_below_drewN | apply below_drew1 | refine below_set ?_ GE131.out) | exact HB.out)) hb)
          clear HO0_0
          clear HO0_1
          clear HO0_2
          clear BK131
          clear HB
          have HO0_0 := n0_
          have HO0_1 := n1_
          have HO0_2 := n2_
          have HO140 := n3_
          have BK131 := n4_
          have HB := n5_
          clear n0_ n1_ n2_ n3_ n4_ n5_
          clear hb ho7
          refine hK.out _ _ ⟨(blk_cell BK131.out 0).trans rfl, (blk_cell BK131.out 1).trans rfl, (blk_cell BK131.out 2).trans rfl⟩ (fun hHeld => ?_)
          clear hK K
          refine norm_ (a' := ?_) ?_ ?_
          rotate_left
          · show Act.put _ (some 11) _ = _
            simp only [Act.put, List.setIfInBounds_toArray, List.set_cons_zero, List.set_cons_succ, i64_w, i32_w]
            rfl
          refine one_ (i := 0) (N := some 3) #[true, true, true, false, true, true, true, true, true, false, false] rfl rfl (one_of HT_.out (by kernel_rfl)) (by decide) (fun K hK => ?_)
          refine Kd.N_lit_step (Kd.slice 3 (Kd.int .i64)) _ 33 ?hg (N' := 3) ?hd (xs := ([] : List (List Int))) (inner := []) (ok := (fun k_ => ((P0_0_ k_ ∨ P0_1_ k_ ∨ P0_2_ k_) ∨ w.heap.size ≤ k_) ∧ some k_ ≠ (v139 : Value).ownBlock ∧ k_ ≠ gb131)) (okp := (fun k_ => ((P0_0_ k_ ∨ P0_1_ k_ ∨ P0_2_ k_) ∨ w.heap.size ≤ k_) ∧ some k_ ≠ (v139 : Value).ownBlock ∧ k_ ≠ gb131)) ?hr ?hp (fun _ hk => hk) ((show ∀ k_, w6.heap.size ≤ k_ → (fun k_ => ((P0_0_ k_ ∨ P0_1_ k_ ∨ P0_2_ k_) ∨ w.heap.size ≤ k_) ∧ some k_ ≠ (v139 : Value).ownBlock ∧ k_ ≠ gb131) k_ from fun k_ hk => ⟨(.inr (Nat.le_trans (below_size (by repeat (first | (with_reducible first | exact HB.out | apply below_alloc | apply pw_below_drewN | apply below_drew1 | refine below_set ?_ GE131.out) | exact HB.out))) hk)), Kd.fresh' (Kd.N_lt (by (with_reducible repeat (first | apply Kd.N_alloc | apply Kd.N_drewN | apply Kd.N_drew)); exact HO140.out)) k_ hk, Kd.freshB (g := gb131) (o := .cells #[.slice A0_0 l0_0.length c0_0, .slice A0_1 l0_1.length c0_1, .slice A0_2 l0_2.length c0_2] 35 (0, 0)) (by (with_reducible repeat (first | refine blk_drewN ?_ _ | refine blk_drew ?_ | refine blk_alloc ?_ _)); exact BK131.out) k_ hk⟩) _ (Nat.le_refl _)) (Below.refl _ _) (Nat.le_refl _) (by simp) ?_; (case hd => rfl); (case hg => rfl); (case hr => first | (go_simp; done) | (go_simp; rfl)); (case hp => exact (Reps.none _ _))
          intro v133 w8 ho9 hb hg_ hnew_
          clear hg_ hnew_
          (first | rw [← Ny132.out] at ho9 | (simp only [Int.reduceToNat] at ho9; rw [← Ny132.out] at ho9))
          have n0_ := Aside0.mk (Kd.V_elder' (by (with_reducible repeat (first | apply Kd.V_alloc | apply Kd.V_drewN | apply Kd.V_drew)); exact HO0_0.out) (Kd.N_base ho9) hb)
          have n1_ := Aside0.mk (Kd.V_elder' (by (with_reducible repeat (first | apply Kd.V_alloc | apply Kd.V_drewN | apply Kd.V_drew)); exact HO0_1.out) (Kd.N_base ho9) hb)
          have n2_ := Aside0.mk (Kd.V_elder' (by (with_reducible repeat (first | apply Kd.V_alloc | apply Kd.V_drewN | apply Kd.V_drew)); exact HO0_2.out) (Kd.N_base ho9) hb)
          have n3_ := Aside0.mk (Kd.N_elder' (by (with_reducible repeat (first | apply Kd.N_alloc | apply Kd.N_drewN | apply Kd.N_drew)); exact HO140.out) (Kd.N_base ho9) hb)
          have n4_ := Aside0.mk (Kd.N_lower ho9 (below_size (by repeat (first | (with_reducible first | exact HB.out | apply below_alloc | apply pw_below_drewN | apply below_drew1 | refine below_set ?_ GE131.out) | exact HB.out))))
          have n5_ := Aside0.mk (blk_below (g := gb131) (o := .cells #[.slice A0_0 l0_0.length c0_0, .slice A0_1 l0_1.length c0_1, .slice A0_2 l0_2.length c0_2] 35 (0, 0)) (by (with_reducible repeat (first | refine blk_drewN ?_ _ | refine blk_drew ?_ | refine blk_alloc ?_ _)); exact BK131.out) hb)
          have n6_ := Aside0.mk (below_step (by repeat (first | (with_reducible first | exact HB.out | apply below_alloc | apply pw_below_drewN | apply below_drew1 | refine below_set ?_ GE131.out) | exact HB.out)) hb)
          clear HO0_0
          clear HO0_1
          clear HO0_2
          clear HO140
          clear BK131
          clear HB
          have HO0_0 := n0_
          have HO0_1 := n1_
          have HO0_2 := n2_
          have HO140 := n3_
          have HO134 := n4_
          have BK131 := n5_
          have HB := n6_
          clear n0_ n1_ n2_ n3_ n4_ n5_ n6_
          clear hb ho9
          refine hK.out _ _ ⟨(blk_cell BK131.out 0).trans rfl, (blk_cell BK131.out 1).trans rfl, (blk_cell BK131.out 2).trans rfl⟩ (fun hHeld => ?_)
          clear hK K
          refine norm_ (a' := ?_) ?_ ?_
          rotate_left
          · show Act.put _ (some 3) _ = _
            simp only [Act.put, List.setIfInBounds_toArray, List.set_cons_zero, List.set_cons_succ, i64_w, i32_w]
            rfl
          refine one_ (i := 3) (N := some 6) #[true, true, true, true, true, true, true, true, true, false, false] rfl rfl (one_of HT_.out (by kernel_rfl)) (by decide) (fun K hK => ?_)
          refine Kd.N_append_rows_step (Kd.slice 3 (Kd.int .i64)) (w0 := w) w.heap.size (by rfl) (.tmp 3) (.tmp 5) 32 33 (.slice none 0 0) 24 rfl Try.underlying32 info33 rfl (by decide) (by omega) v133 y132 l0_0 _ _ _ (fun k_ => ((P0_0_ k_ ∨ P0_1_ k_ ∨ P0_2_ k_) ∨ w.heap.size ≤ k_) ∧ some k_ ≠ (v139 : Value).ownBlock ∧ k_ ≠ gb131) (fun k_ => ((fun k_ => ((P0_0_ k_ ∨ P0_1_ k_ ∨ P0_2_ k_) ∨ w.heap.size ≤ k_) ∧ some k_ ≠ (v139 : Value).ownBlock ∧ k_ ≠ gb131)) k_ ∧ some k_ ≠ (v133 : Value).ownBlock) rfl rfl ?aO ?aR (fun _ hk => hk) ?aF ?aB ?aS ?aL ?_
          (case aR => exact (by skip; exact Kd.V_F (Kd.V_mono (ok' := (fun k_ => ((fun k_ => ((P0_0_ k_ ∨ P0_1_ k_ ∨ P0_2_ k_) ∨ w.heap.size ≤ k_) ∧ some k_ ≠ (v139 : Value).ownBlock ∧ k_ ≠ gb131)) k_ ∧ some k_ ≠ (v133 : Value).ownBlock)) (HO0_0.out) (fun k_ hk => ⟨⟨hk.1.1.1, ⟨hk.1.2, hk.1.1.2⟩⟩, hk.2⟩))))
          (case aB => exact (by repeat (first | (with_reducible first | exact HB.out | apply below_alloc | apply pw_below_drewN | apply below_drew1 | refine below_set ?_ GE131.out) | exact HB.out)))
          (case aF => exact (fun k_ hk => ⟨(.inr (Nat.le_trans (below_size (by repeat (first | (with_reducible first | exact HB.out | apply below_alloc | apply pw_below_drewN | apply below_drew1 | refine below_set ?_ GE131.out) | exact HB.out))) hk)), Kd.fresh' (Kd.N_lt (by (with_reducible repeat (first | apply Kd.N_alloc | apply Kd.N_drewN | apply Kd.N_drew)); exact HO140.out)) k_ hk, Kd.freshB (g := gb131) (o := .cells #[.slice A0_0 l0_0.length c0_0, .slice A0_1 l0_1.length c0_1, .slice A0_2 l0_2.length c0_2] 35 (0, 0)) (by (with_reducible repeat (first | refine blk_drewN ?_ _ | refine blk_drew ?_ | refine blk_alloc ?_ _)); exact BK131.out) k_ hk⟩))
          (case aO => exact (by (with_reducible repeat (first | apply Kd.N_alloc | apply Kd.N_drewN | apply Kd.N_drew)); exact HO134.out))
          (case aS => exact (below_size (by repeat (first | (with_reducible first | exact HB.out | apply below_alloc | apply pw_below_drewN | apply below_drew1 | refine below_set ?_ GE131.out) | exact HB.out))))
          (case aL => have := LMc2.out; omega)
          intro v136 w10 ho hb hg hat
          rw [← Ny135.out] at ho
          have n0_ := Aside0.mk (Kd.V_afterv (ok := (fun k_ => ((P0_0_ k_ ∨ P0_1_ k_ ∨ P0_2_ k_) ∨ w.heap.size ≤ k_) ∧ some k_ ≠ (v139 : Value).ownBlock ∧ k_ ≠ gb131)) (by (with_reducible repeat (first | apply Kd.V_alloc | apply Kd.V_drewN | apply Kd.V_drew)); exact Kd.V_mono HO0_0.out (fun _ hk => ⟨⟨hk.1.1.1, ⟨hk.1.2, hk.1.1.2⟩⟩, hk.2⟩)) hg hat)
          have n1_ := Aside0.mk (Kd.V_afterv (ok := (fun k_ => ((P0_0_ k_ ∨ P0_1_ k_ ∨ P0_2_ k_) ∨ w.heap.size ≤ k_) ∧ some k_ ≠ (v139 : Value).ownBlock ∧ k_ ≠ gb131)) (by (with_reducible repeat (first | apply Kd.V_alloc | apply Kd.V_drewN | apply Kd.V_drew)); exact Kd.V_mono HO0_1.out (fun _ hk => ⟨⟨hk.1.1.1, ⟨hk.1.2, hk.1.1.2⟩⟩, hk.2⟩)) hg hat)
          have n2_ := Aside0.mk (Kd.V_afterv (ok := (fun k_ => ((P0_0_ k_ ∨ P0_1_ k_ ∨ P0_2_ k_) ∨ w.heap.size ≤ k_) ∧ some k_ ≠ (v139 : Value).ownBlock ∧ k_ ≠ gb131)) (by (with_reducible repeat (first | apply Kd.V_alloc | apply Kd.V_drewN | apply Kd.V_drew)); exact Kd.V_mono HO0_2.out (fun _ hk => ⟨⟨hk.1.1.1, ⟨hk.1.2, hk.1.1.2⟩⟩, hk.2⟩)) hg hat)
          have n3_ := Aside0.mk (blk_grown (g := gb131) (o := .cells #[.slice A0_0 l0_0.length c0_0, .slice A0_1 l0_1.length c0_1, .slice A0_2 l0_2.length c0_2] 35 (0, 0)) (by (with_reducible repeat (first | refine blk_drewN ?_ _ | refine blk_drew ?_ | refine blk_alloc ?_ _)); exact BK131.out) hg (Kd.N_ne HO134.out BK131.out (by decide)))
          have n4_ := Aside0.mk (Kd.N_afterv (ok := (fun k_ => ((P0_0_ k_ ∨ P0_1_ k_ ∨ P0_2_ k_) ∨ w.heap.size ≤ k_) ∧ k_ ≠ gb131)) (by (with_reducible repeat (first | apply Kd.N_alloc | apply Kd.N_drewN | apply Kd.N_drew)); exact HO140.out) hg hat)
          have n5_ := Aside0.mk (hb)
          have n6_ := Aside0.mk (ho)
          clear HO0_0
          clear HO0_1
          clear HO0_2
          clear BK131
          clear HO140
          clear HB
          clear HO134
          have HO0_0 := n0_
          have HO0_1 := n1_
          have HO0_2 := n2_
          have BK131 := n3_
          have HO140 := n4_
          have HB := n5_
          have HO137 := n6_
          clear n0_ n1_ n2_ n3_ n4_ n5_ n6_
          clear ho hb hg hat
          refine hK.out _ _ ⟨(blk_cell BK131.out 0).trans rfl, (blk_cell BK131.out 1).trans rfl, (blk_cell BK131.out 2).trans rfl⟩ (fun hHeld => ?_)
          clear hK K
          refine norm_ (a' := ?_) ?_ ?_
          rotate_left
          · show Act.put _ (some 6) _ = _
            simp only [Act.put, List.setIfInBounds_toArray, List.set_cons_zero, List.set_cons_succ, i64_w, i32_w]
            rfl
          exact norm_ (by simp only [putAll, Act.put, List.setIfInBounds_toArray, List.set_cons_zero, List.set_cons_succ]) (hCont (v133, v136, v139) _ ⟨hHeld, (by (with_reducible repeat (first | apply Kd.V_alloc | apply Kd.V_drewN | apply Kd.V_drew)); exact Kd.V_mono HO0_0.out (fun _ hk => ⟨hk.1.1, ⟨hk.2, ⟨hk.1.2.1, hk.1.2.2⟩⟩⟩)), (by (with_reducible repeat (first | apply Kd.V_alloc | apply Kd.V_drewN | apply Kd.V_drew)); exact Kd.V_mono HO0_1.out (fun _ hk => ⟨hk.1.1, ⟨hk.2, ⟨hk.1.2.1, hk.1.2.2⟩⟩⟩)), (by (with_reducible repeat (first | apply Kd.V_alloc | apply Kd.V_drewN | apply Kd.V_drew)); exact Kd.V_mono HO0_2.out (fun _ hk => ⟨hk.1.1, ⟨hk.2, ⟨hk.1.2.1, hk.1.2.2⟩⟩⟩)), (by (with_reducible repeat (first | apply Kd.N_alloc | apply Kd.N_drewN | apply Kd.N_drew)); exact HO137.out), (by (with_reducible repeat (first | apply Kd.N_alloc | apply Kd.N_drewN | apply Kd.N_drew)); exact Kd.N_mono HO140.out (fun _ hk => ⟨hk.1.1, ⟨hk.2, hk.1.2⟩⟩)), (by (with_reducible repeat (first | refine blk_drewN ?_ _ | refine blk_drew ?_ | refine blk_alloc ?_ _)); exact BK131.out), (by repeat (first | (with_reducible first | exact HB.out | apply below_alloc | apply pw_below_drewN | apply below_drew1 | refine below_set ?_ GE131.out) | exact HB.out))⟩)
      rintro ⟨v133, v136, v139⟩ w11 ⟨hS_, h0_, h1_, h2_, h3_, h4_, h5_, h6_⟩
      have n0_ : Aside0 (Kd.V (Kd.slice 3 (Kd.int .i64)) 33 w11 w.heap.size (fun k_ => ((P0_0_ k_ ∨ P0_1_ k_ ∨ P0_2_ k_) ∨ w.heap.size ≤ k_) ∧ some k_ ≠ (v136 : Value).ownBlock ∧ some k_ ≠ (v139 : Value).ownBlock ∧ k_ ≠ gb131) (.slice A0_0 l0_0.length c0_0) l0_0) := ⟨h0_⟩
      have n1_ : Aside0 (Kd.V (Kd.int .i64) 3 w11 w.heap.size (fun k_ => ((P0_0_ k_ ∨ P0_1_ k_ ∨ P0_2_ k_) ∨ w.heap.size ≤ k_) ∧ some k_ ≠ (v136 : Value).ownBlock ∧ some k_ ≠ (v139 : Value).ownBlock ∧ k_ ≠ gb131) (.slice A0_1 l0_1.length c0_1) l0_1) := ⟨h1_⟩
      have n2_ : Aside0 (Kd.V (Kd.int .i64) 3 w11 w.heap.size (fun k_ => ((P0_0_ k_ ∨ P0_1_ k_ ∨ P0_2_ k_) ∨ w.heap.size ≤ k_) ∧ some k_ ≠ (v136 : Value).ownBlock ∧ some k_ ≠ (v139 : Value).ownBlock ∧ k_ ≠ gb131) (.slice A0_2 l0_2.length c0_2) l0_2) := ⟨h2_⟩
      have n3_ : Aside0 (Kd.N (Kd.slice 3 (Kd.int .i64)) 33 w11 w.heap.size (fun k_ => ((P0_0_ k_ ∨ P0_1_ k_ ∨ P0_2_ k_) ∨ w.heap.size ≤ k_) ∧ some k_ ≠ (v139 : Value).ownBlock ∧ k_ ≠ gb131) v136 y135) := ⟨h3_⟩
      have n4_ : Aside0 (Kd.N (Kd.slice 3 (Kd.int .i64)) 33 w11 w.heap.size (fun k_ => ((P0_0_ k_ ∨ P0_1_ k_ ∨ P0_2_ k_) ∨ w.heap.size ≤ k_) ∧ some k_ ≠ (v136 : Value).ownBlock ∧ k_ ≠ gb131) v139 y138) := ⟨h4_⟩
      have n5_ : Aside0 (w11.heap[gb131]? = some (.cells #[.slice A0_0 l0_0.length c0_0, .slice A0_1 l0_1.length c0_1, .slice A0_2 l0_2.length c0_2] 35 (0, 0))) := ⟨h5_⟩
      have n6_ : Aside0 (Below w.heap.size w w11) := ⟨h6_⟩
      clear HO0_0
      clear HO0_1
      clear HO0_2
      clear BK131
      clear HB
      clear h0_ h1_ h2_ h3_ h4_ h5_ h6_
      have HO0_0 := n0_
      have HO0_1 := n1_
      have HO0_2 := n2_
      have HO137 := n3_
      have HO140 := n4_
      have BK131 := n5_
      have HB := n6_
      clear n0_ n1_ n2_ n3_ n4_ n5_ n6_
      have hHeld : w11.cell? ⟨gb131, 0, none⟩ = some (.slice A0_0 l0_0.length c0_0) ∧ w11.cell? ⟨gb131, 1, none⟩ = some (.slice A0_1 l0_1.length c0_1) ∧ w11.cell? ⟨gb131, 2, none⟩ = some (.slice A0_2 l0_2.length c0_2) := hS_
      obtain ⟨Ao13, co13, eo13⟩ := Kd.N_slice HO140.out
      (first | subst eo13 | (injection eo13 with f1_ f2_ f3_; have f4_ := f1_.symm; have f5_ := f3_.symm; clear f1_ f2_ f3_; subst f4_; subst f5_))
      refine norm_ (a' := ?_) ?_ ?_
      rotate_left
      · simp only [putAll, Act.put, List.setIfInBounds_toArray, List.set_cons_zero, List.set_cons_succ]
        rfl
      refine one_ (i := 9) (N := some 12) #[true, true, true, true, true, true, true, true, true, true, false] rfl rfl (one_of HT_.out (by kernel_rfl)) (by decide) (fun K hK => ?_)
      refine Kd.N_append_rows_step (Kd.slice 3 (Kd.int .i64)) (w0 := w) w.heap.size (by rfl) (.tmp 6) (.tmp 11) 32 33 (.slice none 0 0) 24 rfl Try.underlying32 info33 rfl (by decide) (by omega) v136 y135 y138 _ _ _ (fun k_ => ((P0_0_ k_ ∨ P0_1_ k_ ∨ P0_2_ k_) ∨ w.heap.size ≤ k_) ∧ k_ ≠ gb131) (fun k_ => ((fun k_ => ((P0_0_ k_ ∨ P0_1_ k_ ∨ P0_2_ k_) ∨ w.heap.size ≤ k_) ∧ k_ ≠ gb131)) k_ ∧ some k_ ≠ (v136 : Value).ownBlock) rfl rfl ?aO ?aR (fun _ hk => hk) ?aF ?aB ?aS ?aL ?_
      (case aR => exact (by skip; exact Kd.N_F (Kd.N_mono (ok' := (fun k_ => ((fun k_ => ((P0_0_ k_ ∨ P0_1_ k_ ∨ P0_2_ k_) ∨ w.heap.size ≤ k_) ∧ k_ ≠ gb131)) k_ ∧ some k_ ≠ (v136 : Value).ownBlock)) (HO140.out) (fun k_ hk => ⟨⟨hk.1, hk.2.2⟩, hk.2.1⟩))))
      (case aB => exact (by repeat (first | (with_reducible first | exact HB.out | apply below_alloc | apply pw_below_drewN | apply below_drew1 | refine below_set ?_ GE131.out) | exact HB.out)))
      (case aF => exact (fun k_ hk => ⟨(.inr (Nat.le_trans (below_size (by repeat (first | (with_reducible first | exact HB.out | apply below_alloc | apply pw_below_drewN | apply below_drew1 | refine below_set ?_ GE131.out) | exact HB.out))) hk)), Kd.freshB (g := gb131) (o := .cells #[.slice A0_0 l0_0.length c0_0, .slice A0_1 l0_1.length c0_1, .slice A0_2 l0_2.length c0_2] 35 (0, 0)) (by (with_reducible repeat (first | refine blk_drewN ?_ _ | refine blk_drew ?_ | refine blk_alloc ?_ _)); exact BK131.out) k_ hk⟩))
      (case aO => exact (by (with_reducible repeat (first | apply Kd.N_alloc | apply Kd.N_drewN | apply Kd.N_drew)); exact Kd.N_mono HO137.out (fun _ hk => ⟨hk.1, hk.2.2⟩)))
      (case aS => exact (below_size (by repeat (first | (with_reducible first | exact HB.out | apply below_alloc | apply pw_below_drewN | apply below_drew1 | refine below_set ?_ GE131.out) | exact HB.out))))
      (case aL => have := LMc3.out; omega)
      intro v142 w12 ho hb hg hat
      rw [← Ny141.out] at ho
      have n0_ := Aside0.mk (Kd.V_afterv (ok := (fun k_ => ((P0_0_ k_ ∨ P0_1_ k_ ∨ P0_2_ k_) ∨ w.heap.size ≤ k_) ∧ some k_ ≠ (.slice Ao13 y138.length co13 : Value).ownBlock ∧ k_ ≠ gb131)) (by (with_reducible repeat (first | apply Kd.V_alloc | apply Kd.V_drewN | apply Kd.V_drew)); exact Kd.V_mono HO0_0.out (fun _ hk => ⟨⟨hk.1, ⟨hk.2.2.1, hk.2.2.2⟩⟩, hk.2.1⟩)) hg hat)
      have n1_ := Aside0.mk (Kd.V_afterv (ok := (fun k_ => ((P0_0_ k_ ∨ P0_1_ k_ ∨ P0_2_ k_) ∨ w.heap.size ≤ k_) ∧ some k_ ≠ (.slice Ao13 y138.length co13 : Value).ownBlock ∧ k_ ≠ gb131)) (by (with_reducible repeat (first | apply Kd.V_alloc | apply Kd.V_drewN | apply Kd.V_drew)); exact Kd.V_mono HO0_1.out (fun _ hk => ⟨⟨hk.1, ⟨hk.2.2.1, hk.2.2.2⟩⟩, hk.2.1⟩)) hg hat)
      have n2_ := Aside0.mk (Kd.V_afterv (ok := (fun k_ => ((P0_0_ k_ ∨ P0_1_ k_ ∨ P0_2_ k_) ∨ w.heap.size ≤ k_) ∧ some k_ ≠ (.slice Ao13 y138.length co13 : Value).ownBlock ∧ k_ ≠ gb131)) (by (with_reducible repeat (first | apply Kd.V_alloc | apply Kd.V_drewN | apply Kd.V_drew)); exact Kd.V_mono HO0_2.out (fun _ hk => ⟨⟨hk.1, ⟨hk.2.2.1, hk.2.2.2⟩⟩, hk.2.1⟩)) hg hat)
      have n3_ := Aside0.mk (blk_grown (g := gb131) (o := .cells #[.slice A0_0 l0_0.length c0_0, .slice A0_1 l0_1.length c0_1, .slice A0_2 l0_2.length c0_2] 35 (0, 0)) (by (with_reducible repeat (first | refine blk_drewN ?_ _ | refine blk_drew ?_ | refine blk_alloc ?_ _)); exact BK131.out) hg (Kd.N_ne HO137.out BK131.out (by decide)))
      have n4_ := Aside0.mk (Kd.N_afterv (ok := (fun k_ => ((P0_0_ k_ ∨ P0_1_ k_ ∨ P0_2_ k_) ∨ w.heap.size ≤ k_) ∧ k_ ≠ gb131)) (by (with_reducible repeat (first | apply Kd.N_alloc | apply Kd.N_drewN | apply Kd.N_drew)); exact Kd.N_mono HO140.out (fun _ hk => ⟨⟨hk.1, hk.2.2⟩, hk.2.1⟩)) hg hat)
      have n5_ := Aside0.mk (hb)
      have n6_ := Aside0.mk (ho)
      clear HO0_0
      clear HO0_1
      clear HO0_2
      clear BK131
      clear HO140
      clear HB
      clear HO137
      have HO0_0 := n0_
      have HO0_1 := n1_
      have HO0_2 := n2_
      have BK131 := n3_
      have HO140 := n4_
      have HB := n5_
      have HO143 := n6_
      clear n0_ n1_ n2_ n3_ n4_ n5_ n6_
      clear ho hb hg hat
      refine hK.out _ _ ⟨(blk_cell BK131.out 0).trans rfl, (blk_cell BK131.out 1).trans rfl, (blk_cell BK131.out 2).trans rfl⟩ (fun hHeld => ?_)
      clear hK K
      refine norm_ (a' := ?_) ?_ ?_
      rotate_left
      · show Act.put _ (some 12) _ = _
        simp only [Act.put, List.setIfInBounds_toArray, List.set_cons_zero, List.set_cons_succ, i64_w, i32_w]
        rfl
      refine pure_ (i := 10) (N := some 2) (v := ?_) (a' := ?_) #[true, true, true, true, true, true, true, true, true, true, true] rfl rfl (any_of HT_.out (by kernel_rfl)) (fun _ _ _ h => h) (Or.inl ⟨by rfl, ?_⟩) ?_ ?_
      rotate_left
      · intro w'
        go_simp
        with_reducible rfl
      rotate_left
      · simp only [Act.put, List.setIfInBounds_toArray, List.set_cons_zero, List.set_cons_succ, i64_w, i32_w]
        rfl
      refine done_ (done_of HT_.out (by kernel_rfl)) ?_
      try go_wp2
      go_ret
      exact ⟨_, by first | rfl | (simp [errW_none, errW_some] <;> rfl) | (simp [*, errW_none, errW_some] <;> rfl), by (with_reducible repeat (first | apply Kd.N_alloc | apply Kd.N_drewN | apply Kd.N_drew)); exact Kd.N_mono HO143.out (fun _ hk => hk.1), by repeat (first | (with_reducible first | exact HB.out | apply below_alloc | apply pw_below_drewN | apply below_drew1 | refine below_set ?_ GE131.out) | exact HB.out)⟩
    · rw [if_neg c3] at H
      exact absurd H (by simp)
  · rw [if_neg c2] at H
    exact absurd H (by simp)
end Go.Proofs.Ytgcdeablfoomhaa.PAll
end
section
namespace Go.Proofs.Ytgcdeablfoomhaa.PAll
open Go.RowKit Go.Proofs.YtgcdeablfoomhaaW.PrintWords Go.Proofs.YtgcdeablfoomhaaW.PrintLast Go.Proofs.YtgcdeablfoomhaaW.PrintMore
attribute [local go_sem] max2_int min2_int max_two min_two max_three min_three max_four min_four   -- for this text's walks alone
set_option linter.unusedVariables false
set_option linter.unusedSimpArgs false
mutual
def enumerate_Weight.l0 : Nat → Int → List (List Int) → Int → Int → Option (Int)
  | 0, _, _, _, _ => none
  | k + 1, x3, x9, x10, x11 => if x11 < x10 then (if 0 ≤ x11 then (if x11 < (x9.length : Int) then (enumerate_Weight.l1 k x3 x9 x10 x11 (rd_L4 x9 x11) ((rd_L4 x9 x11).length : Int) 0) else (none)) else (none)) else (some x3)
def enumerate_Weight.l1 : Nat → Int → List (List Int) → Int → Int → List Int → Int → Int → Option (Int)
  | 0, _, _, _, _, _, _, _ => none
  | k + 1, x3, x9, x10, x11, x15, x16, x17 => if x17 < x16 then (if 0 ≤ x17 then (if x17 < (x15.length : Int) then ((enumerate_Rank.f (rd x15 x17)).bind fun t150 => (enumerate_Weight.l1 k (wrap64 (x3 + (wrap64 (t150 + 1)))) x9 x10 x11 x15 x16 (wrap64 (x17 + 1)))) else (none)) else (none)) else (enumerate_Weight.l0 k x3 x9 x10 (wrap64 (x11 + 1)))
end
def enumerate_Weight.f (k : Nat) (l0_0 : List (List Int)) (l0_1 : List Int) (l0_2 : List Int) : Option (Int) := (enumerate_lists.f l0_0 l0_1 l0_2).bind fun t145 => (enumerate_Weight.l0 k 0 t145 (t145.length : Int) 0)
theorem enumerate_Weight.mono_l : ∀ k, (∀ y0 y1 y2 y3, LeO (enumerate_Weight.l0 k y0 y1 y2 y3) (enumerate_Weight.l0 (k + 1) y0 y1 y2 y3)) ∧ (∀ y0 y1 y2 y3 y4 y5 y6, LeO (enumerate_Weight.l1 k y0 y1 y2 y3 y4 y5 y6) (enumerate_Weight.l1 (k + 1) y0 y1 y2 y3 y4 y5 y6))
  | 0 => ⟨fun _ _ _ _ r h => by simp [enumerate_Weight.l0] at h, fun _ _ _ _ _ _ _ r h => by simp [enumerate_Weight.l1] at h⟩
  | k + 1 => by
    obtain ⟨ih0, ih1⟩ := enumerate_Weight.mono_l k
    refine ⟨?_, ?_⟩
    · intro y0 y1 y2 y3
      unfold enumerate_Weight.l0
      repeat' first
      | (with_reducible exact ih0 _ _ _ _)
      | (with_reducible exact ih1 _ _ _ _ _ _ _)
      | (with_reducible exact LeO.refl _)
      | (with_reducible exact LeO.none _)
      | (with_reducible refine LeO.ite ?_ ?_)
      | (with_reducible refine LeO.bind ?_ (fun _ => ?_))
      | exact ih0 _ _ _ _
      | exact ih1 _ _ _ _ _ _ _
      | exact LeO.none _
      | refine LeO.ite ?_ ?_
      | refine LeO.bind ?_ (fun _ => ?_)
    · intro y0 y1 y2 y3 y4 y5 y6
      unfold enumerate_Weight.l1
      repeat' first
      | (with_reducible exact ih0 _ _ _ _)
      | (with_reducible exact ih1 _ _ _ _ _ _ _)
      | (with_reducible exact LeO.refl _)
      | (with_reducible exact LeO.none _)
      | (with_reducible refine LeO.ite ?_ ?_)
      | (with_reducible refine LeO.bind ?_ (fun _ => ?_))
      | exact ih0 _ _ _ _
      | exact ih1 _ _ _ _ _ _ _
      | exact LeO.none _
      | refine LeO.ite ?_ ?_
      | refine LeO.bind ?_ (fun _ => ?_)
theorem enumerate_Weight.mono : ∀ a0 a1 a2 k, LeO (enumerate_Weight.f k a0 a1 a2) (enumerate_Weight.f (k + 1) a0 a1 a2) := by
  intro a0 a1 a2 k
  obtain ⟨ih0, ih1⟩ := enumerate_Weight.mono_l k
  unfold enumerate_Weight.f
  repeat' first
      | (with_reducible exact ih0 _ _ _ _)
      | (with_reducible exact ih1 _ _ _ _ _ _ _)
      | (with_reducible exact LeO.refl _)
      | (with_reducible exact LeO.none _)
      | (with_reducible refine LeO.ite ?_ ?_)
      | (with_reducible refine LeO.bind ?_ (fun _ => ?_))
      | exact ih0 _ _ _ _
      | exact ih1 _ _ _ _ _ _ _
      | exact LeO.none _
      | refine LeO.ite ?_ ?_
      | refine LeO.bind ?_ (fun _ => ?_)
set_option maxHeartbeats 8000000 in
set_option maxRecDepth 100000 in
theorem enumerate_Weight.calls (k : Nat) (A0_0 : Option Addr) (c0_0 : Nat) (l0_0 : List (List Int)) (A0_1 : Option Addr) (c0_1 : Nat) (l0_1 : List Int) (A0_2 : Option Addr) (c0_2 : Nat) (l0_2 : List Int) (r : Int) (w : World) (hr0_0 : Kd.C (Kd.slice 3 (Kd.int .i64)) w A0_0 l0_0.length l0_0) (hc0_0 : l0_0.length ≤ c0_0) (hr0_1 : Kd.C (Kd.int .i64) w A0_1 l0_1.length l0_1) (hc0_1 : l0_1.length ≤ c0_1) (hr0_2 : Kd.C (Kd.int .i64) w A0_2 l0_2.length l0_2) (hc0_2 : l0_2.length ≤ c0_2) (h : enumerate_Weight.f k l0_0 l0_1 l0_2 = some r) :
    Calls Try.prog 20 #[.agg #[.slice A0_0 l0_0.length c0_0, .slice A0_1 l0_1.length c0_1, .slice A0_2 l0_2.length c0_2]] w fun e w' => e = .returned (.int .i64 r) ∧ Below w.heap.size w w' := by
  have hu35 := Try.underlying35
  have HR0_0 := Aside0.mk hr0_0
  have HC0_0 := Aside0.mk hc0_0
  clear hr0_0 hc0_0
  have HR0_1 := Aside0.mk hr0_1
  have HC0_1 := Aside0.mk hc0_1
  clear hr0_1 hc0_1
  have HR0_2 := Aside0.mk hr0_2
  have HC0_2 := Aside0.mk hc0_2
  clear hr0_2 hc0_2
  have HB := Aside0.mk (Below.refl w.heap.size w)
  have H : ((enumerate_lists.f l0_0 l0_1 l0_2).bind fun t145 => (enumerate_Weight.l0 k 0 t145 (t145.length : Int) 0)) = some r := h
  clear h
  replace H := Option.bind_eq_some_iff.mp H
  obtain ⟨t145, A20, H⟩ := H
  replace H : (enumerate_Weight.l0 k 0 t145 (t145.length : Int) 0) = some r := H
  have A2 := Aside0.mk A20
  clear A20
  have H' := Aside0.mk H
  clear H
  go_enter Try.func20, Try.ntmps20
  go_wp2_with (first | ((with_reducible refine gate_dst (N := 1) rfl ?_); refine box_event ?hg (N := 1) ?hd (cs := #[.slice A0_0 l0_0.length c0_0, .slice A0_1 l0_1.length c0_1, .slice A0_2 l0_2.length c0_2]) (t := 35) ?hr ?_; (case hd => rfl); (case hg => rfl); (case hr => first | (go_simp; done) | (go_simp; rfl)); intro gb144 hg w3 hbox hb; have n0_ := Aside0.mk (below_step (by repeat (first | (with_reducible first | exact HB.out | apply below_alloc | apply pw_below_drewN | apply below_drew1) | exact HB.out)) hb); have n1_ := Aside0.mk (hbox); have n2_ := Aside0.mk ((by rw [hg]; exact (below_size (by repeat (first | (with_reducible first | exact HB.out | apply below_alloc | apply pw_below_drewN | apply below_drew1) | exact HB.out))) : w.heap.size ≤ gb144)); have n3_ := Aside0.mk ((by rw [hg]; exact (below_size (by repeat (first | (with_reducible first | exact HB.out | apply below_alloc | apply pw_below_drewN | apply below_drew1) | exact HB.out))) : w.heap.size ≤ gb144)); clear HB; have HB := n0_; have BK144 := n1_; have GW144 := n2_; have GE144 := n3_; clear n0_ n1_ n2_ n3_; clear hb hbox hg; have hcz4_0 : w3.cell? ⟨gb144, 0, none⟩ = some (.slice A0_0 l0_0.length c0_0) := (blk_cell BK144.out 0).trans rfl; have hcz4_1 : w3.cell? ⟨gb144, 1, none⟩ = some (.slice A0_1 l0_1.length c0_1) := (blk_cell BK144.out 1).trans rfl; have hcz4_2 : w3.cell? ⟨gb144, 2, none⟩ = some (.slice A0_2 l0_2.length c0_2) := (blk_cell BK144.out 2).trans rfl; have hfz4_0 := blk_frozen BK144.out 0; have hfz4_1 := blk_frozen BK144.out 1; have hfz4_2 := blk_frozen BK144.out 2) | ((with_reducible refine gate_callee (f := 35) rfl ?_); refine goesL_ (some 9) rfl rfl Try.func35 (by kernel_rfl) rfl #[.agg #[.slice A0_0 l0_0.length c0_0, .slice A0_1 l0_1.length c0_1, .slice A0_2 l0_2.length c0_2]] rfl (by (try simp only [List.map_toArray, List.map_cons, List.map_nil]); first | done | rfl | (simp only [List.length_drop, List.length_take]; rfl)) ?_; (with_reducible refine (enumerate_lists.calls (fun k_ => k_ < w.heap.size) _ _ l0_0 (fun k_ => k_ < w.heap.size) _ _ l0_1 (fun k_ => k_ < w.heap.size) _ _ l0_2 t145 _ ?side1 ?side2 ?side3 A2.out).mono ?_); (case side1 => exact Kd.V_mk HC0_0.out (Kd.F_below (Kd.C_F (Kd.heap_slice 3 (Kd.heap_int .i64)) HR0_0.out) (by repeat (first | (with_reducible first | exact HB.out | apply below_alloc | apply pw_below_drewN | apply below_drew1 | refine below_set ?_ GE144.out) | exact HB.out)))); (case side2 => exact Kd.V_mk HC0_1.out (Kd.F_below (Kd.C_F (Kd.heap_int .i64) HR0_1.out) (by repeat (first | (with_reducible first | exact HB.out | apply below_alloc | apply pw_below_drewN | apply below_drew1 | refine below_set ?_ GE144.out) | exact HB.out)))); (case side3 => exact Kd.V_mk HC0_2.out (Kd.F_below (Kd.C_F (Kd.heap_int .i64) HR0_2.out) (by repeat (first | (with_reducible first | exact HB.out | apply below_alloc | apply pw_below_drewN | apply below_drew1 | refine below_set ?_ GE144.out) | exact HB.out)))); rintro e w5 ⟨v146, rfl, ho0, hb⟩; refine ⟨_, rfl, ?_⟩; have n0_ := Aside0.mk (Kd.N_lower (Kd.N_mono (ok' := fun k_ => k_ ≠ gb144) ho0 (fun k_ hk_ => Or.elim hk_ (fun hs_ => Or.elim hs_ (fun hs_ => fun e_ => Nat.not_le.2 hs_ (by rw [e_]; exact GW144.out)) (fun hs_ => Or.elim hs_ (fun hs_ => fun e_ => Nat.not_le.2 hs_ (by rw [e_]; exact GW144.out)) (fun hs_ => fun e_ => Nat.not_le.2 hs_ (by rw [e_]; exact GW144.out)))) (fun hn_ => (Kd.freshB (g := gb144) (o := .cells #[.slice A0_0 l0_0.length c0_0, .slice A0_1 l0_1.length c0_1, .slice A0_2 l0_2.length c0_2] 35 (0, 0)) (by (with_reducible repeat (first | refine blk_drewN ?_ _ | refine blk_drew ?_ | refine blk_alloc ?_ _)); exact BK144.out) k_ hn_)))) (below_size (by repeat (first | (with_reducible first | exact HB.out | apply below_alloc | apply pw_below_drewN | apply below_drew1 | refine below_set ?_ GE144.out) | exact HB.out)))); have n1_ := Aside0.mk (blk_below (g := gb144) (o := .cells #[.slice A0_0 l0_0.length c0_0, .slice A0_1 l0_1.length c0_1, .slice A0_2 l0_2.length c0_2] 35 (0, 0)) (by (with_reducible repeat (first | refine blk_drewN ?_ _ | refine blk_drew ?_ | refine blk_alloc ?_ _)); exact BK144.out) hb); have n2_ := Aside0.mk (below_step (by repeat (first | (with_reducible first | exact HB.out | apply below_alloc | apply pw_below_drewN | apply below_drew1 | refine below_set ?_ GE144.out) | exact HB.out)) hb); clear BK144; clear HB; have HO147 := n0_; have BK144 := n1_; have HB := n2_; clear n0_ n1_ n2_; (try clear hb); (try clear hb2); (try clear hk); (try clear hi); (try clear ho0); obtain ⟨Ao6, co6, eo6⟩ := Kd.N_slice HO147.out; subst eo6))
  go_loopg [3, 11] k (fun kq v3 v11 w' => ∃ (x3_1 : Int) (x11_1 : Int), v3 = .int .i64 x3_1 ∧ v11 = .int .i64 x11_1 ∧ Aside0 (enumerate_Weight.l0 kq x3_1 t145 (t145.length : Int) x11_1 = some r) ∧ Aside0 (kq ≤ k) ∧ Aside0 (Kd.N (Kd.slice 3 (Kd.int .i64)) 33 w' w.heap.size (fun k_ => k_ ≠ gb144) (.slice Ao6 t145.length co6) t145) ∧ Aside0 (w'.heap[gb144]? = some (.cells #[(.slice A0_0 l0_0.length c0_0), (.slice A0_1 l0_1.length c0_1), (.slice A0_2 l0_2.length c0_2)] 35 (0, 0))) ∧ Aside0 (Below w.heap.size w w'))
  case atStart => exact ⟨(0), (0), (by first | rfl | (simp; done) | (simp [*]; done)), (by first | rfl | (simp; done) | (simp [*]; done)), H', ⟨Nat.le_refl _⟩, ⟨by (with_reducible repeat (first | apply Kd.N_alloc | apply Kd.N_drewN | apply Kd.N_drew)); exact HO147.out⟩, ⟨by (with_reducible repeat (first | refine blk_drewN ?_ _ | refine blk_drew ?_ | refine blk_alloc ?_ _)); exact BK144.out⟩, ⟨by repeat (first | (with_reducible first | exact HB.out | apply below_alloc | apply pw_below_drewN | apply below_drew1 | refine below_set ?_ GE144.out) | exact HB.out)⟩⟩
  case round =>
    clear H'
    try clear c2
    try clear p2
    try clear c3
    try clear hcz4_0
    try clear hcz4_1
    try clear hcz4_2
    try clear hfz4_0
    try clear hfz4_1
    try clear hfz4_2
    obtain ⟨x3_1, x11_1, rfl, rfl, HA, HK1, HO_9, BK144, HB⟩ := hrel
    cases gk with
    | zero => exact absurd HA.out (by simp [enumerate_Weight.l0])
    | succ k1 =>
      have H := HA.out
      clear HA
      simp only [enumerate_Weight.l0] at H
      by_cases c7 : x11_1 < (t145.length : Int)
      · rw [if_pos c7] at H
        have c7b0 : decide (x11_1 < (t145.length : Int)) = true := decide_eq_true c7
        clear c7
        by_cases c8 : 0 ≤ x11_1
        · rw [if_pos c8] at H
          have c8b0 : decide (0 ≤ x11_1) = true := decide_eq_true c8
          clear c8
          by_cases c9 : x11_1 < (t145.length : Int)
          · rw [if_pos c9] at H
            have c9b0 : decide (x11_1 < (t145.length : Int)) = true := decide_eq_true c9
            clear c9
            have H' := Aside0.mk H
            clear H
            have p148 : 0 ≤ (x11_1 : Int) := of_decide_eq_true (by first | (with_reducible assumption) | assumption)
            have q148 : x11_1 < (t145.length : Int) := of_decide_eq_true (by first | (with_reducible assumption) | assumption)
            obtain ⟨ad148, A148_0, c148_0, e148, hx148_0, hl148_0, hi148_0⟩ := at_L4 (Kd.N_reads' HO_9.out).2.2 x11_1 p148 q148
            cases e148
            obtain ⟨ce148, hce148, hMe148, hcc148⟩ := Kd.N_get HO_9.out [] x11_1 p148 (by first | exact q148 | exact of_decide_eq_true (by first | (with_reducible assumption) | assumption) | (have e_ := (Kd.N_reads' HO_9.out).1; omega))
            obtain ⟨ua148_0, uc148_0, rfl, ul148_0, ge148_0⟩ := Kd.FK_slice_open hMe148
            have hv148_0 := hcc148 0 _ rfl
            rw [Nat.add_zero, show ((Kd.slice 3 (Kd.int .i64))).sz = 1 from rfl, Nat.mul_one] at hv148_0
            replace hv148_0 := Option.some.inj (hv148_0.symm.trans hx148_0)
            injection hv148_0 with hva_ hvn_ hvc_
            rw [hva_] at ge148_0
            rw [hvc_] at ul148_0
            have HL148_0 := Aside0.mk (show Kd.V (Kd.int .i64) 3 _ w.heap.size _ _ (rd_L4 t145 x11_1) from Kd.V_mk ul148_0 ge148_0)
            clear hva_ hvn_ hvc_ ge148_0 ul148_0
            clear hcc148 hce148
            have HR148_0 := Aside0.mk hi148_0
            have HC148_0 := Aside0.mk hl148_0
            clear hi148_0 hl148_0
            replace p148 := eq_true p148
            replace q148 := eq_true q148
            go_wp2
            go_loopg [3, 17] k1 (fun kq v3 v17 w' => ∃ (x3_2 : Int) (x17_2 : Int), v3 = .int .i64 x3_2 ∧ v17 = .int .i64 x17_2 ∧ Aside0 (enumerate_Weight.l1 kq x3_2 t145 (t145.length : Int) x11_1 (rd_L4 t145 x11_1) ((rd_L4 t145 x11_1).length : Int) x17_2 = some r) ∧ Aside0 (kq ≤ k1) ∧ Aside0 (Kd.N (Kd.slice 3 (Kd.int .i64)) 33 w' w.heap.size (fun k_ => k_ ≠ gb144) (.slice (some ad148) t145.length co6) t145) ∧ Aside0 (w'.heap[gb144]? = some (.cells #[(.slice A0_0 l0_0.length c0_0), (.slice A0_1 l0_1.length c0_1), (.slice A0_2 l0_2.length c0_2)] 35 (0, 0))) ∧ Aside0 (Kd.C (Kd.int .i64) w' A148_0 (rd_L4 t145 x11_1).length (rd_L4 t145 x11_1)) ∧ Aside0 (Below w.heap.size w w'))
            case atStart => exact ⟨(x3_1), (0), (by first | rfl | (simp; done) | (simp [*]; done)), (by first | rfl | (simp; done) | (simp [*]; done)), H', ⟨Nat.le_refl _⟩, ⟨by (with_reducible repeat (first | apply Kd.N_alloc | apply Kd.N_drewN | apply Kd.N_drew)); exact HO_9.out⟩, ⟨by (with_reducible repeat (first | refine blk_drewN ?_ _ | refine blk_drew ?_ | refine blk_alloc ?_ _)); exact BK144.out⟩, ⟨by repeat (first | (with_reducible exact HR148_0.out) | (with_reducible refine Kd.C_alloc ?_ _) | (with_reducible refine Kd.C_drewN ?_ _) | (with_reducible refine Kd.C_drew ?_) | exact HR148_0.out)⟩, ⟨by repeat (first | (with_reducible first | exact HB.out | apply below_alloc | apply pw_below_drewN | apply below_drew1 | refine below_set ?_ GE144.out) | exact HB.out)⟩⟩
            case round =>
              clear H'
              try clear c1
              try clear p1
              try clear q1
              try clear hx1
              try clear c2
              try clear p2
              try clear c3
              try clear c7
              try clear c7b0
              try clear c8
              try clear c8b0
              try clear c9
              try clear c9b0
              try clear hcz4_0
              try clear hcz4_1
              try clear hcz4_2
              try clear hfz4_0
              try clear hfz4_1
              try clear hfz4_2
              try clear hx148_0
              try clear p148
              try clear p2
              try clear q148
              obtain ⟨x3_2, x17_2, rfl, rfl, HA, HK2, HO_9, BK144, HR148_0, HB⟩ := hrel
              cases gk with
              | zero => exact absurd HA.out (by simp [enumerate_Weight.l1])
              | succ k2 =>
                have H := HA.out
                clear HA
                simp only [enumerate_Weight.l1] at H
                by_cases c10 : x17_2 < ((rd_L4 t145 x11_1).length : Int)
                · rw [if_pos c10] at H
                  have c10b0 : decide (x17_2 < ((rd_L4 t145 x11_1).length : Int)) = true := decide_eq_true c10
                  clear c10
                  by_cases c11 : 0 ≤ x17_2
                  · rw [if_pos c11] at H
                    have c11b0 : decide (0 ≤ x17_2) = true := decide_eq_true c11
                    clear c11
                    by_cases c12 : x17_2 < ((rd_L4 t145 x11_1).length : Int)
                    · rw [if_pos c12] at H
                      have c12b0 : decide (x17_2 < ((rd_L4 t145 x11_1).length : Int)) = true := decide_eq_true c12
                      clear c12
                      replace H := Option.bind_eq_some_iff.mp H
                      obtain ⟨t150, A130, H⟩ := H
                      replace H : (enumerate_Weight.l1 k2 (wrap64 (x3_2 + (wrap64 (t150 + 1)))) t145 (t145.length : Int) x11_1 (rd_L4 t145 x11_1) ((rd_L4 t145 x11_1).length : Int) (wrap64 (x17_2 + 1))) = some r := H
                      have A13 := Aside0.mk A130
                      clear A130
                      have H' := Aside0.mk H
                      clear H
                      have p149 : 0 ≤ (x17_2 : Int) := of_decide_eq_true (by first | (with_reducible assumption) | assumption)
                      have q149 : x17_2 < ((rd_L4 t145 x11_1).length : Int) := of_decide_eq_true (by first | (with_reducible assumption) | assumption)
                      obtain ⟨ad149, e149, hx149_0⟩ := Kd.at_int HR148_0.out x17_2 p149 q149
                      cases e149
                      try replace hx149_0 := (HB.out.cell (World.block_lt_of_cell? w _ hx149_0)).trans hx149_0
                      replace p149 := eq_true p149
                      replace q149 := eq_true q149
                      go_wp2_with (first | ((with_reducible refine gate_callee (f := 16) rfl ?_); refine goesL_ (some 23) rfl rfl Try.func16 (by kernel_rfl) rfl #[.int .i64 (rd (rd_L4 t145 x11_1) x17_2)] rfl (by (try simp only [List.map_toArray, List.map_cons, List.map_nil]); first | done | rfl | (simp only [List.length_drop, List.length_take]; rfl)) ?_; (with_reducible refine (enumerate_Rank.calls (rd (rd_L4 t145 x11_1) x17_2) t150 _ A13.out).mono ?_); rintro e w' ⟨rfl, ⟨nd, rfl⟩⟩; refine ⟨_, rfl, ?_⟩))
                      go_roundg k2
                      case measure => have := HK1.out; have := HK2.out; omega
                      case rel => exact ⟨(wrap64 (x3_2 + (wrap64 (t150 + 1)))), (wrap64 (x17_2 + 1)), (by first | rfl | (simp; done) | (simp [*]; done)), (by first | rfl | (simp; done) | (simp [*]; done)), H', ⟨by have := HK1.out; have := HK2.out; omega⟩, ⟨by (with_reducible repeat (first | apply Kd.N_alloc | apply Kd.N_drewN | apply Kd.N_drew)); exact HO_9.out⟩, ⟨by (with_reducible repeat (first | refine blk_drewN ?_ _ | refine blk_drew ?_ | refine blk_alloc ?_ _)); exact BK144.out⟩, ⟨by repeat (first | (with_reducible exact HR148_0.out) | (with_reducible refine Kd.C_alloc ?_ _) | (with_reducible refine Kd.C_drewN ?_ _) | (with_reducible refine Kd.C_drew ?_) | exact HR148_0.out)⟩, ⟨by repeat (first | (with_reducible first | exact HB.out | apply below_alloc | apply pw_below_drewN | apply below_drew1 | refine below_set ?_ GE144.out) | exact HB.out)⟩⟩
                    · rw [if_neg c12] at H
                      exact absurd H (by simp)
                  · rw [if_neg c11] at H
                    exact absurd H (by simp)
                · rw [if_neg c10] at H
                  have c10b0 : decide (x17_2 < ((rd_L4 t145 x11_1).length : Int)) = false := decide_eq_false c10
                  clear c10
                  have H' := Aside0.mk H
                  clear H
                  go_wp2
                  go_roundg k2
                  case measure => have := HK1.out; have := HK2.out; omega
                  case rel => exact ⟨(x3_2), (wrap64 (x11_1 + 1)), (by first | rfl | (simp; done) | (simp [*]; done)), (by first | rfl | (simp; done) | (simp [*]; done)), H', ⟨by have := HK1.out; have := HK2.out; omega⟩, ⟨by (with_reducible repeat (first | apply Kd.N_alloc | apply Kd.N_drewN | apply Kd.N_drew)); exact HO_9.out⟩, ⟨by (with_reducible repeat (first | refine blk_drewN ?_ _ | refine blk_drew ?_ | refine blk_alloc ?_ _)); exact BK144.out⟩, ⟨by repeat (first | (with_reducible first | exact HB.out | apply below_alloc | apply pw_below_drewN | apply below_drew1 | refine below_set ?_ GE144.out) | exact HB.out)⟩⟩
          · rw [if_neg c9] at H
            exact absurd H (by simp)
        · rw [if_neg c8] at H
          exact absurd H (by simp)
      · rw [if_neg c7] at H
        have c7b0 : decide (x11_1 < (t145.length : Int)) = false := decide_eq_false c7
        clear c7
        obtain rfl := Option.some.inj H
        go_wp2
        go_ret
        exact ⟨by first | rfl | (simp [errW_none, errW_some] <;> rfl) | (simp [*, errW_none, errW_some] <;> rfl), by repeat (first | (with_reducible first | exact HB.out | apply below_alloc | apply pw_below_drewN | apply below_drew1 | refine below_set ?_ GE144.out) | exact HB.out)⟩
mutual
def backstepref12_Weight.l0 : Nat → List (List Int) → Int → Int → Option (Int)
  | 0, _, _, _ => none
  | k + 1, x3, x4, x5 => if x5 < (x3.length : Int) then (backstepref12_Weight.l1 k x3 x4 x5 0) else (some x4)
def backstepref12_Weight.l1 : Nat → List (List Int) → Int → Int → Int → Option (Int)
  | 0, _, _, _, _ => none
  | k + 1, x3, x4, x5, x6 => if 0 ≤ x5 then (if x5 < (x3.length : Int) then (if x6 < ((rd_L4 x3 x5).length : Int) then (if 0 ≤ x6 then ((backstepref12_Rank.f (rd (rd_L4 x3 x5) x6)).bind fun t158 => (backstepref12_Weight.l1 k x3 (wrap64 ((wrap64 (x4 + t158)) + 1)) x5 (wrap64 (x6 + 1)))) else (none)) else (backstepref12_Weight.l0 k x3 x4 (wrap64 (x5 + 1)))) else (none)) else (none)
end
def backstepref12_Weight.f (k : Nat) (l0_0 : List (List Int)) (l0_1 : List Int) (l0_2 : List Int) : Option (Int) := (backstepref12_lists.f k l0_0 l0_1 l0_2).bind fun t152 => (backstepref12_Weight.l0 k t152 0 0)
theorem backstepref12_Weight.mono_l : ∀ k, (∀ y0 y1 y2, LeO (backstepref12_Weight.l0 k y0 y1 y2) (backstepref12_Weight.l0 (k + 1) y0 y1 y2)) ∧ (∀ y0 y1 y2 y3, LeO (backstepref12_Weight.l1 k y0 y1 y2 y3) (backstepref12_Weight.l1 (k + 1) y0 y1 y2 y3))
  | 0 => ⟨fun _ _ _ r h => by simp [backstepref12_Weight.l0] at h, fun _ _ _ _ r h => by simp [backstepref12_Weight.l1] at h⟩
  | k + 1 => by
    obtain ⟨ih0, ih1⟩ := backstepref12_Weight.mono_l k
    refine ⟨?_, ?_⟩
    · intro y0 y1 y2
      unfold backstepref12_Weight.l0
      repeat' first
      | (with_reducible exact ih0 _ _ _)
      | (with_reducible exact ih1 _ _ _ _)
      | (with_reducible exact backstepref12_lists.mono _ _ _ _)
      | (with_reducible exact LeO.refl _)
      | (with_reducible exact LeO.none _)
      | (with_reducible refine LeO.ite ?_ ?_)
      | (with_reducible refine LeO.bind ?_ (fun _ => ?_))
      | exact ih0 _ _ _
      | exact ih1 _ _ _ _
      | exact backstepref12_lists.mono _ _ _ _
      | exact LeO.none _
      | refine LeO.ite ?_ ?_
      | refine LeO.bind ?_ (fun _ => ?_)
    · intro y0 y1 y2 y3
      unfold backstepref12_Weight.l1
      repeat' first
      | (with_reducible exact ih0 _ _ _)
      | (with_reducible exact ih1 _ _ _ _)
      | (with_reducible exact backstepref12_lists.mono _ _ _ _)
      | (with_reducible exact LeO.refl _)
      | (with_reducible exact LeO.none _)
      | (with_reducible refine LeO.ite ?_ ?_)
      | (with_reducible refine LeO.bind ?_ (fun _ => ?_))
      | exact ih0 _ _ _
      | exact ih1 _ _ _ _
      | exact backstepref12_lists.mono _ _ _ _
      | exact LeO.none _
      | refine LeO.ite ?_ ?_
      | refine LeO.bind ?_ (fun _ => ?_)
theorem backstepref12_Weight.mono : ∀ a0 a1 a2 k, LeO (backstepref12_Weight.f k a0 a1 a2) (backstepref12_Weight.f (k + 1) a0 a1 a2) := by
  intro a0 a1 a2 k
  obtain ⟨ih0, ih1⟩ := backstepref12_Weight.mono_l k
  unfold backstepref12_Weight.f
  repeat' first
      | (with_reducible exact ih0 _ _ _)
      | (with_reducible exact ih1 _ _ _ _)
      | (with_reducible exact backstepref12_lists.mono _ _ _ _)
      | (with_reducible exact LeO.refl _)
      | (with_reducible exact LeO.none _)
      | (with_reducible refine LeO.ite ?_ ?_)
      | (with_reducible refine LeO.bind ?_ (fun _ => ?_))
      | exact ih0 _ _ _
      | exact ih1 _ _ _ _
      | exact backstepref12_lists.mono _ _ _ _
      | exact LeO.none _
      | refine LeO.ite ?_ ?_
      | refine LeO.bind ?_ (fun _ => ?_)
set_option maxHeartbeats 8000000 in
set_option maxRecDepth 100000 in
theorem backstepref12_Weight.calls (k : Nat) (A0_0 : Option Addr) (c0_0 : Nat) (l0_0 : List (List Int)) (A0_1 : Option Addr) (c0_1 : Nat) (l0_1 : List Int) (A0_2 : Option Addr) (c0_2 : Nat) (l0_2 : List Int) (r : Int) (w : World) (hr0_0 : Kd.C (Kd.slice 3 (Kd.int .i64)) w A0_0 l0_0.length l0_0) (hc0_0 : l0_0.length ≤ c0_0) (hr0_1 : Kd.C (Kd.int .i64) w A0_1 l0_1.length l0_1) (hc0_1 : l0_1.length ≤ c0_1) (hr0_2 : Kd.C (Kd.int .i64) w A0_2 l0_2.length l0_2) (hc0_2 : l0_2.length ≤ c0_2) (h : backstepref12_Weight.f k l0_0 l0_1 l0_2 = some r) :
    Calls Try.prog 21 #[.agg #[.slice A0_0 l0_0.length c0_0, .slice A0_1 l0_1.length c0_1, .slice A0_2 l0_2.length c0_2]] w fun e w' => e = .returned (.int .i64 r) ∧ Below w.heap.size w w' := by
  have hu35 := Try.underlying35
  have HR0_0 := Aside0.mk hr0_0
  have HC0_0 := Aside0.mk hc0_0
  clear hr0_0 hc0_0
  have HR0_1 := Aside0.mk hr0_1
  have HC0_1 := Aside0.mk hc0_1
  clear hr0_1 hc0_1
  have HR0_2 := Aside0.mk hr0_2
  have HC0_2 := Aside0.mk hc0_2
  clear hr0_2 hc0_2
  have HB := Aside0.mk (Below.refl w.heap.size w)
  have H : ((backstepref12_lists.f k l0_0 l0_1 l0_2).bind fun t152 => (backstepref12_Weight.l0 k t152 0 0)) = some r := h
  clear h
  replace H := Option.bind_eq_some_iff.mp H
  obtain ⟨t152, A20, H⟩ := H
  replace H : (backstepref12_Weight.l0 k t152 0 0) = some r := H
  have A2 := Aside0.mk A20
  clear A20
  have H' := Aside0.mk H
  clear H
  go_enter Try.func21, Try.ntmps21
  go_wp2_with (first | ((with_reducible refine gate_dst (N := 1) rfl ?_); refine box_event ?hg (N := 1) ?hd (cs := #[.slice A0_0 l0_0.length c0_0, .slice A0_1 l0_1.length c0_1, .slice A0_2 l0_2.length c0_2]) (t := 35) ?hr ?_; (case hd => rfl); (case hg => rfl); (case hr => first | (go_simp; done) | (go_simp; rfl)); intro gb151 hg w3 hbox hb; have n0_ := Aside0.mk (below_step (by repeat (first | (with_reducible first | exact HB.out | apply below_alloc | apply pw_below_drewN | apply below_drew1) | exact HB.out)) hb); have n1_ := Aside0.mk (hbox); have n2_ := Aside0.mk ((by rw [hg]; exact (below_size (by repeat (first | (with_reducible first | exact HB.out | apply below_alloc | apply pw_below_drewN | apply below_drew1) | exact HB.out))) : w.heap.size ≤ gb151)); have n3_ := Aside0.mk ((by rw [hg]; exact (below_size (by repeat (first | (with_reducible first | exact HB.out | apply below_alloc | apply pw_below_drewN | apply below_drew1) | exact HB.out))) : w.heap.size ≤ gb151)); clear HB; have HB := n0_; have BK151 := n1_; have GW151 := n2_; have GE151 := n3_; clear n0_ n1_ n2_ n3_; clear hb hbox hg; have hcz4_0 : w3.cell? ⟨gb151, 0, none⟩ = some (.slice A0_0 l0_0.length c0_0) := (blk_cell BK151.out 0).trans rfl; have hcz4_1 : w3.cell? ⟨gb151, 1, none⟩ = some (.slice A0_1 l0_1.length c0_1) := (blk_cell BK151.out 1).trans rfl; have hcz4_2 : w3.cell? ⟨gb151, 2, none⟩ = some (.slice A0_2 l0_2.length c0_2) := (blk_cell BK151.out 2).trans rfl; have hfz4_0 := blk_frozen BK151.out 0; have hfz4_1 := blk_frozen BK151.out 1; have hfz4_2 := blk_frozen BK151.out 2) | ((with_reducible refine gate_callee (f := 34) rfl ?_); refine goesL_ (some 8) rfl rfl Try.func34 (by kernel_rfl) rfl #[.agg #[.slice A0_0 l0_0.length c0_0, .slice A0_1 l0_1.length c0_1, .slice A0_2 l0_2.length c0_2]] rfl (by (try simp only [List.map_toArray, List.map_cons, List.map_nil]); first | done | rfl | (simp only [List.length_drop, List.length_take]; rfl)) ?_; (with_reducible refine (backstepref12_lists.calls k (fun k_ => k_ < w.heap.size) _ _ l0_0 (fun k_ => k_ < w.heap.size) _ _ l0_1 (fun k_ => k_ < w.heap.size) _ _ l0_2 t152 _ ?side1 ?side2 ?side3 A2.out).mono ?_); (case side1 => exact Kd.V_mk HC0_0.out (Kd.F_below (Kd.C_F (Kd.heap_slice 3 (Kd.heap_int .i64)) HR0_0.out) (by repeat (first | (with_reducible first | exact HB.out | apply below_alloc | apply pw_below_drewN | apply below_drew1 | refine below_set ?_ GE151.out) | exact HB.out)))); (case side2 => exact Kd.V_mk HC0_1.out (Kd.F_below (Kd.C_F (Kd.heap_int .i64) HR0_1.out) (by repeat (first | (with_reducible first | exact HB.out | apply below_alloc | apply pw_below_drewN | apply below_drew1 | refine below_set ?_ GE151.out) | exact HB.out)))); (case side3 => exact Kd.V_mk HC0_2.out (Kd.F_below (Kd.C_F (Kd.heap_int .i64) HR0_2.out) (by repeat (first | (with_reducible first | exact HB.out | apply below_alloc | apply pw_below_drewN | apply below_drew1 | refine below_set ?_ GE151.out) | exact HB.out)))); rintro e w5 ⟨v153, rfl, ho0, hb⟩; refine ⟨_, rfl, ?_⟩; have n0_ := Aside0.mk (Kd.N_lower (Kd.N_mono (ok' := fun k_ => k_ ≠ gb151) ho0 (fun k_ hk_ => Or.elim hk_ (fun hs_ => Or.elim hs_ (fun hs_ => fun e_ => Nat.not_le.2 hs_ (by rw [e_]; exact GW151.out)) (fun hs_ => Or.elim hs_ (fun hs_ => fun e_ => Nat.not_le.2 hs_ (by rw [e_]; exact GW151.out)) (fun hs_ => fun e_ => Nat.not_le.2 hs_ (by rw [e_]; exact GW151.out)))) (fun hn_ => (Kd.freshB (g := gb151) (o := .cells #[.slice A0_0 l0_0.length c0_0, .slice A0_1 l0_1.length c0_1, .slice A0_2 l0_2.length c0_2] 35 (0, 0)) (by (with_reducible repeat (first | refine blk_drewN ?_ _ | refine blk_drew ?_ | refine blk_alloc ?_ _)); exact BK151.out) k_ hn_)))) (below_size (by repeat (first | (with_reducible first | exact HB.out | apply below_alloc | apply pw_below_drewN | apply below_drew1 | refine below_set ?_ GE151.out) | exact HB.out)))); have n1_ := Aside0.mk (blk_below (g := gb151) (o := .cells #[.slice A0_0 l0_0.length c0_0, .slice A0_1 l0_1.length c0_1, .slice A0_2 l0_2.length c0_2] 35 (0, 0)) (by (with_reducible repeat (first | refine blk_drewN ?_ _ | refine blk_drew ?_ | refine blk_alloc ?_ _)); exact BK151.out) hb); have n2_ := Aside0.mk (below_step (by repeat (first | (with_reducible first | exact HB.out | apply below_alloc | apply pw_below_drewN | apply below_drew1 | refine below_set ?_ GE151.out) | exact HB.out)) hb); clear BK151; clear HB; have HO154 := n0_; have BK151 := n1_; have HB := n2_; clear n0_ n1_ n2_; (try clear hb); (try clear hb2); (try clear hk); (try clear hi); (try clear ho0)))
  go_loopg [4, 5] k (fun kq v4 v5 w' => ∃ (x4_1 : Int) (x5_1 : Int), v4 = .int .i64 x4_1 ∧ v5 = .int .i64 x5_1 ∧ Aside0 (backstepref12_Weight.l0 kq t152 x4_1 x5_1 = some r) ∧ Aside0 (kq ≤ k) ∧ Aside0 (Kd.N (Kd.slice 3 (Kd.int .i64)) 33 w' w.heap.size (fun k_ => k_ ≠ gb151) v153 t152) ∧ Aside0 (w'.heap[gb151]? = some (.cells #[(.slice A0_0 l0_0.length c0_0), (.slice A0_1 l0_1.length c0_1), (.slice A0_2 l0_2.length c0_2)] 35 (0, 0))) ∧ Aside0 (Below w.heap.size w w'))
  case atStart => exact ⟨(0), (0), (by first | rfl | (simp; done) | (simp [*]; done)), (by first | rfl | (simp; done) | (simp [*]; done)), H', ⟨Nat.le_refl _⟩, ⟨by (with_reducible repeat (first | apply Kd.N_alloc | apply Kd.N_drewN | apply Kd.N_drew)); exact HO154.out⟩, ⟨by (with_reducible repeat (first | refine blk_drewN ?_ _ | refine blk_drew ?_ | refine blk_alloc ?_ _)); exact BK151.out⟩, ⟨by repeat (first | (with_reducible first | exact HB.out | apply below_alloc | apply pw_below_drewN | apply below_drew1 | refine below_set ?_ GE151.out) | exact HB.out)⟩⟩
  case round =>
    clear H'
    try clear c2
    try clear p2
    try clear c3
    try clear hcz4_0
    try clear hcz4_1
    try clear hcz4_2
    try clear hfz4_0
    try clear hfz4_1
    try clear hfz4_2
    obtain ⟨x4_1, x5_1, rfl, rfl, HA, HK1, HO_3, BK151, HB⟩ := hrel
    cases gk with
    | zero => exact absurd HA.out (by simp [backstepref12_Weight.l0])
    | succ k1 =>
      have H := HA.out
      clear HA
      simp only [backstepref12_Weight.l0] at H
      by_cases c6 : x5_1 < (t152.length : Int)
      · rw [if_pos c6] at H
        have c6b0 : decide (x5_1 < (t152.length : Int)) = true := decide_eq_true c6
        clear c6
        have H' := Aside0.mk H
        clear H
        obtain ⟨Ao7, co7, eo7⟩ := Kd.N_slice HO_3.out
        subst eo7
        go_wp2
        go_loopg [4, 6] k1 (fun kq v4 v6 w' => ∃ (x4_2 : Int) (x6_2 : Int), v4 = .int .i64 x4_2 ∧ v6 = .int .i64 x6_2 ∧ Aside0 (backstepref12_Weight.l1 kq t152 x4_2 x5_1 x6_2 = some r) ∧ Aside0 (kq ≤ k1) ∧ Aside0 (Kd.N (Kd.slice 3 (Kd.int .i64)) 33 w' w.heap.size (fun k_ => k_ ≠ gb151) (.slice Ao7 t152.length co7) t152) ∧ Aside0 (w'.heap[gb151]? = some (.cells #[(.slice A0_0 l0_0.length c0_0), (.slice A0_1 l0_1.length c0_1), (.slice A0_2 l0_2.length c0_2)] 35 (0, 0))) ∧ Aside0 (Below w.heap.size w w'))
        case atStart => exact ⟨(x4_1), (0), (by first | rfl | (simp; done) | (simp [*]; done)), (by first | rfl | (simp; done) | (simp [*]; done)), H', ⟨Nat.le_refl _⟩, ⟨by (with_reducible repeat (first | apply Kd.N_alloc | apply Kd.N_drewN | apply Kd.N_drew)); exact HO_3.out⟩, ⟨by (with_reducible repeat (first | refine blk_drewN ?_ _ | refine blk_drew ?_ | refine blk_alloc ?_ _)); exact BK151.out⟩, ⟨by repeat (first | (with_reducible first | exact HB.out | apply below_alloc | apply pw_below_drewN | apply below_drew1 | refine below_set ?_ GE151.out) | exact HB.out)⟩⟩
        case round =>
          clear H'
          try clear c2
          try clear p2
          try clear c3
          try clear c6
          try clear c6b0
          try clear hcz4_0
          try clear hcz4_1
          try clear hcz4_2
          try clear hfz4_0
          try clear hfz4_1
          try clear hfz4_2
          try clear p2
          obtain ⟨x4_2, x6_2, rfl, rfl, HA, HK2, HO_3, BK151, HB⟩ := hrel
          cases gk with
          | zero => exact absurd HA.out (by simp [backstepref12_Weight.l1])
          | succ k2 =>
            have H := HA.out
            clear HA
            simp only [backstepref12_Weight.l1] at H
            by_cases c8 : 0 ≤ x5_1
            · rw [if_pos c8] at H
              have c8b0 : decide (0 ≤ x5_1) = true := decide_eq_true c8
              clear c8
              by_cases c9 : x5_1 < (t152.length : Int)
              · rw [if_pos c9] at H
                have c9b0 : decide (x5_1 < (t152.length : Int)) = true := decide_eq_true c9
                clear c9
                by_cases c10 : x6_2 < ((rd_L4 t152 x5_1).length : Int)
                · rw [if_pos c10] at H
                  have c10b0 : decide (x6_2 < ((rd_L4 t152 x5_1).length : Int)) = true := decide_eq_true c10
                  clear c10
                  by_cases c11 : 0 ≤ x6_2
                  · rw [if_pos c11] at H
                    have c11b0 : decide (0 ≤ x6_2) = true := decide_eq_true c11
                    clear c11
                    replace H := Option.bind_eq_some_iff.mp H
                    obtain ⟨t158, A120, H⟩ := H
                    replace H : (backstepref12_Weight.l1 k2 t152 (wrap64 ((wrap64 (x4_2 + t158)) + 1)) x5_1 (wrap64 (x6_2 + 1))) = some r := H
                    have A12 := Aside0.mk A120
                    clear A120
                    have H' := Aside0.mk H
                    clear H
                    have p155 : 0 ≤ (x5_1 : Int) := of_decide_eq_true (by first | (with_reducible assumption) | assumption)
                    have q155 : x5_1 < (t152.length : Int) := of_decide_eq_true (by first | (with_reducible assumption) | assumption)
                    obtain ⟨ad155, A155_0, c155_0, e155, hx155_0, hl155_0, hi155_0⟩ := at_L4 (Kd.N_reads' HO_3.out).2.2 x5_1 p155 q155
                    cases e155
                    obtain ⟨ce155, hce155, hMe155, hcc155⟩ := Kd.N_get HO_3.out [] x5_1 p155 (by first | exact q155 | exact of_decide_eq_true (by first | (with_reducible assumption) | assumption) | (have e_ := (Kd.N_reads' HO_3.out).1; omega))
                    obtain ⟨ua155_0, uc155_0, rfl, ul155_0, ge155_0⟩ := Kd.FK_slice_open hMe155
                    have hv155_0 := hcc155 0 _ rfl
                    rw [Nat.add_zero, show ((Kd.slice 3 (Kd.int .i64))).sz = 1 from rfl, Nat.mul_one] at hv155_0
                    replace hv155_0 := Option.some.inj (hv155_0.symm.trans hx155_0)
                    injection hv155_0 with hva_ hvn_ hvc_
                    rw [hva_] at ge155_0
                    rw [hvc_] at ul155_0
                    have HL155_0 := Aside0.mk (show Kd.V (Kd.int .i64) 3 _ w.heap.size _ _ (rd_L4 t152 x5_1) from Kd.V_mk ul155_0 ge155_0)
                    clear hva_ hvn_ hvc_ ge155_0 ul155_0
                    clear hcc155 hce155
                    have HR155_0 := Aside0.mk hi155_0
                    have HC155_0 := Aside0.mk hl155_0
                    clear hi155_0 hl155_0
                    replace p155 := eq_true p155
                    replace q155 := eq_true q155
                    have p156 : 0 ≤ (x5_1 : Int) := of_decide_eq_true (by first | (with_reducible assumption) | assumption)
                    have q156 : x5_1 < (t152.length : Int) := of_decide_eq_true (by first | (with_reducible assumption) | assumption)
                    obtain ⟨ad156, A156_0, c156_0, e156, hx156_0, hl156_0, hi156_0⟩ := at_L4 (Kd.N_reads' HO_3.out).2.2 x5_1 p156 q156
                    obtain rfl : ad155 = ad156 := (by injection e156)
                    obtain ⟨ce156, hce156, hMe156, hcc156⟩ := Kd.N_get HO_3.out [] x5_1 p156 (by first | exact q156 | exact of_decide_eq_true (by first | (with_reducible assumption) | assumption) | (have e_ := (Kd.N_reads' HO_3.out).1; omega))
                    obtain ⟨ua156_0, uc156_0, rfl, ul156_0, ge156_0⟩ := Kd.FK_slice_open hMe156
                    have hv156_0 := hcc156 0 _ rfl
                    rw [Nat.add_zero, show ((Kd.slice 3 (Kd.int .i64))).sz = 1 from rfl, Nat.mul_one] at hv156_0
                    replace hv156_0 := Option.some.inj (hv156_0.symm.trans hx156_0)
                    injection hv156_0 with hva_ hvn_ hvc_
                    rw [hva_] at ge156_0
                    rw [hvc_] at ul156_0
                    have HL156_0 := Aside0.mk (show Kd.V (Kd.int .i64) 3 _ w.heap.size _ _ (rd_L4 t152 x5_1) from Kd.V_mk ul156_0 ge156_0)
                    clear hva_ hvn_ hvc_ ge156_0 ul156_0
                    clear hcc156 hce156
                    have HR156_0 := Aside0.mk hi156_0
                    have HC156_0 := Aside0.mk hl156_0
                    clear hi156_0 hl156_0
                    replace p156 := eq_true p156
                    replace q156 := eq_true q156
                    have ea_ := Option.some.inj (hx155_0.symm.trans hx156_0)
                    injection ea_ with ea_ en_ ec_
                    subst ea_
                    subst ec_
                    clear en_
                    have p157 : 0 ≤ (x6_2 : Int) := of_decide_eq_true (by first | (with_reducible assumption) | assumption)
                    have q157 : x6_2 < ((rd_L4 t152 x5_1).length : Int) := of_decide_eq_true (by first | (with_reducible assumption) | assumption)
                    obtain ⟨ad157, e157, hx157_0⟩ := Kd.at_int (by repeat (first | (with_reducible exact HR156_0.out) | (with_reducible refine Kd.C_alloc ?_ _) | (with_reducible refine Kd.C_drewN ?_ _) | (with_reducible refine Kd.C_drew ?_) | exact HR156_0.out)) x6_2 p157 q157
                    cases e157
                    replace p157 := eq_true p157
                    replace q157 := eq_true q157
                    go_wp2_with (first | ((with_reducible refine gate_callee (f := 18) rfl ?_); refine goesL_ (some 32) rfl rfl Try.func18 (by kernel_rfl) rfl #[.int .i64 (rd (rd_L4 t152 x5_1) x6_2)] rfl (by (try simp only [List.map_toArray, List.map_cons, List.map_nil]); first | done | rfl | (simp only [List.length_drop, List.length_take]; rfl)) ?_; (with_reducible refine (backstepref12_Rank.calls (rd (rd_L4 t152 x5_1) x6_2) t158 _ A12.out).mono ?_); rintro e w' ⟨rfl, ⟨nd, rfl⟩⟩; refine ⟨_, rfl, ?_⟩))
                    go_roundg k2
                    case measure => have := HK1.out; have := HK2.out; omega
                    case rel => exact ⟨(wrap64 ((wrap64 (x4_2 + t158)) + 1)), (wrap64 (x6_2 + 1)), (by first | rfl | (simp; done) | (simp [*]; done)), (by first | rfl | (simp; done) | (simp [*]; done)), H', ⟨by have := HK1.out; have := HK2.out; omega⟩, ⟨by (with_reducible repeat (first | apply Kd.N_alloc | apply Kd.N_drewN | apply Kd.N_drew)); exact HO_3.out⟩, ⟨by (with_reducible repeat (first | refine blk_drewN ?_ _ | refine blk_drew ?_ | refine blk_alloc ?_ _)); exact BK151.out⟩, ⟨by repeat (first | (with_reducible first | exact HB.out | apply below_alloc | apply pw_below_drewN | apply below_drew1 | refine below_set ?_ GE151.out) | exact HB.out)⟩⟩
                  · rw [if_neg c11] at H
                    exact absurd H (by simp)
                · rw [if_neg c10] at H
                  have c10b0 : decide (x6_2 < ((rd_L4 t152 x5_1).length : Int)) = false := decide_eq_false c10
                  clear c10
                  have H' := Aside0.mk H
                  clear H
                  have p155 : 0 ≤ (x5_1 : Int) := of_decide_eq_true (by first | (with_reducible assumption) | assumption)
                  have q155 : x5_1 < (t152.length : Int) := of_decide_eq_true (by first | (with_reducible assumption) | assumption)
                  obtain ⟨ad155, A155_0, c155_0, e155, hx155_0, hl155_0, hi155_0⟩ := at_L4 (Kd.N_reads' HO_3.out).2.2 x5_1 p155 q155
                  cases e155
                  obtain ⟨ce155, hce155, hMe155, hcc155⟩ := Kd.N_get HO_3.out [] x5_1 p155 (by first | exact q155 | exact of_decide_eq_true (by first | (with_reducible assumption) | assumption) | (have e_ := (Kd.N_reads' HO_3.out).1; omega))
                  obtain ⟨ua155_0, uc155_0, rfl, ul155_0, ge155_0⟩ := Kd.FK_slice_open hMe155
                  have hv155_0 := hcc155 0 _ rfl
                  rw [Nat.add_zero, show ((Kd.slice 3 (Kd.int .i64))).sz = 1 from rfl, Nat.mul_one] at hv155_0
                  replace hv155_0 := Option.some.inj (hv155_0.symm.trans hx155_0)
                  injection hv155_0 with hva_ hvn_ hvc_
                  rw [hva_] at ge155_0
                  rw [hvc_] at ul155_0
                  have HL155_0 := Aside0.mk (show Kd.V (Kd.int .i64) 3 _ w.heap.size _ _ (rd_L4 t152 x5_1) from Kd.V_mk ul155_0 ge155_0)
                  clear hva_ hvn_ hvc_ ge155_0 ul155_0
                  clear hcc155 hce155
                  have HR155_0 := Aside0.mk hi155_0
                  have HC155_0 := Aside0.mk hl155_0
                  clear hi155_0 hl155_0
                  replace p155 := eq_true p155
                  replace q155 := eq_true q155
                  go_wp2
                  go_roundg k2
                  case measure => have := HK1.out; have := HK2.out; omega
                  case rel => exact ⟨(x4_2), (wrap64 (x5_1 + 1)), (by first | rfl | (simp; done) | (simp [*]; done)), (by first | rfl | (simp; done) | (simp [*]; done)), H', ⟨by have := HK1.out; have := HK2.out; omega⟩, ⟨by (with_reducible repeat (first | apply Kd.N_alloc | apply Kd.N_drewN | apply Kd.N_drew)); exact HO_3.out⟩, ⟨by (with_reducible repeat (first | refine blk_drewN ?_ _ | refine blk_drew ?_ | refine blk_alloc ?_ _)); exact BK151.out⟩, ⟨by repeat (first | (with_reducible first | exact HB.out | apply below_alloc | apply pw_below_drewN | apply below_drew1 | refine below_set ?_ GE151.out) | exact HB.out)⟩⟩
              · rw [if_neg c9] at H
                exact absurd H (by simp)
            · rw [if_neg c8] at H
              exact absurd H (by simp)
      · rw [if_neg c6] at H
        have c6b0 : decide (x5_1 < (t152.length : Int)) = false := decide_eq_false c6
        clear c6
        obtain rfl := Option.some.inj H
        obtain ⟨Ao13, co13, eo13⟩ := Kd.N_slice HO_3.out
        subst eo13
        go_wp2
        go_ret
        exact ⟨by first | rfl | (simp [errW_none, errW_some] <;> rfl) | (simp [*, errW_none, errW_some] <;> rfl), by repeat (first | (with_reducible first | exact HB.out | apply below_alloc | apply pw_below_drewN | apply below_drew1 | refine below_set ?_ GE151.out) | exact HB.out)⟩
end Go.Proofs.Ytgcdeablfoomhaa.PAll
end
section
namespace Go.Proofs.Ytgcdeablfoomhaa.PAll
open Go.RowKit Go.Proofs.YtgcdeablfoomhaaW.PrintWords Go.Proofs.YtgcdeablfoomhaaW.PrintLast Go.Proofs.YtgcdeablfoomhaaW.PrintMore
attribute [local go_sem] max2_int min2_int max_two min_two max_three min_three max_four min_four   -- for this text's walks alone
set_option linter.unusedVariables false
set_option linter.unusedSimpArgs false
mutual
def backstepref12_Fits.l0 : Nat → List (List Int) → Int → Int → Option (Bool)
  | 0, _, _, _ => none
  | k + 1, x3, x4, x5 => if x5 < (x3.length : Int) then (if 0 ≤ x5 then (backstepref12_Fits.l1 k x3 (wrap64 (x4 + ((rd_L4 x3 x5).length : Int))) x5 0) else (none)) else (some (decide (x4 ≤ 65536)))
def backstepref12_Fits.l1 : Nat → List (List Int) → Int → Int → Int → Option (Bool)
  | 0, _, _, _, _ => none
  | k + 1, x3, x4, x5, x6 => if 0 ≤ x5 then (if x5 < (x3.length : Int) then (if x6 < ((rd_L4 x3 x5).length : Int) then (if 0 ≤ x6 then (if (rd (rd_L4 x3 x5) x6) > 1099511627776 then (some false) else (if (rd (rd_L4 x3 x5) x6) < (-1099511627776) then (some false) else (backstepref12_Fits.l1 k x3 x4 x5 (wrap64 (x6 + 1))))) else (none)) else (backstepref12_Fits.l0 k x3 x4 (wrap64 (x5 + 1)))) else (none)) else (none)
end
def backstepref12_Fits.f (k : Nat) (l0_0 : List (List Int)) (l0_1 : List Int) (l0_2 : List Int) : Option (Bool) := (backstepref12_lists.f k l0_0 l0_1 l0_2).bind fun t122 => (backstepref12_Fits.l0 k t122 0 0)
theorem backstepref12_Fits.mono_l : ∀ k, (∀ y0 y1 y2, LeO (backstepref12_Fits.l0 k y0 y1 y2) (backstepref12_Fits.l0 (k + 1) y0 y1 y2)) ∧ (∀ y0 y1 y2 y3, LeO (backstepref12_Fits.l1 k y0 y1 y2 y3) (backstepref12_Fits.l1 (k + 1) y0 y1 y2 y3))
  | 0 => ⟨fun _ _ _ r h => by simp [backstepref12_Fits.l0] at h, fun _ _ _ _ r h => by simp [backstepref12_Fits.l1] at h⟩
  | k + 1 => by
    obtain ⟨ih0, ih1⟩ := backstepref12_Fits.mono_l k
    refine ⟨?_, ?_⟩
    · intro y0 y1 y2
      unfold backstepref12_Fits.l0
      repeat' first
      | (with_reducible exact ih0 _ _ _)
      | (with_reducible exact ih1 _ _ _ _)
      | (with_reducible exact backstepref12_lists.mono _ _ _ _)
      | (with_reducible exact LeO.refl _)
      | (with_reducible exact LeO.none _)
      | (with_reducible refine LeO.ite ?_ ?_)
      | (with_reducible refine LeO.bind ?_ (fun _ => ?_))
      | exact ih0 _ _ _
      | exact ih1 _ _ _ _
      | exact backstepref12_lists.mono _ _ _ _
      | exact LeO.none _
      | refine LeO.ite ?_ ?_
      | refine LeO.bind ?_ (fun _ => ?_)
    · intro y0 y1 y2 y3
      unfold backstepref12_Fits.l1
      repeat' first
      | (with_reducible exact ih0 _ _ _)
      | (with_reducible exact ih1 _ _ _ _)
      | (with_reducible exact backstepref12_lists.mono _ _ _ _)
      | (with_reducible exact LeO.refl _)
      | (with_reducible exact LeO.none _)
      | (with_reducible refine LeO.ite ?_ ?_)
      | (with_reducible refine LeO.bind ?_ (fun _ => ?_))
      | exact ih0 _ _ _
      | exact ih1 _ _ _ _
      | exact backstepref12_lists.mono _ _ _ _
      | exact LeO.none _
      | refine LeO.ite ?_ ?_
      | refine LeO.bind ?_ (fun _ => ?_)
set_option maxHeartbeats 8000000 in
set_option maxRecDepth 100000 in
theorem backstepref12_Fits.calls (k : Nat) (A0_0 : Option Addr) (c0_0 : Nat) (l0_0 : List (List Int)) (A0_1 : Option Addr) (c0_1 : Nat) (l0_1 : List Int) (A0_2 : Option Addr) (c0_2 : Nat) (l0_2 : List Int) (r : Bool) (w : World) (hr0_0 : Kd.C (Kd.slice 3 (Kd.int .i64)) w A0_0 l0_0.length l0_0) (hc0_0 : l0_0.length ≤ c0_0) (hr0_1 : Kd.C (Kd.int .i64) w A0_1 l0_1.length l0_1) (hc0_1 : l0_1.length ≤ c0_1) (hr0_2 : Kd.C (Kd.int .i64) w A0_2 l0_2.length l0_2) (hc0_2 : l0_2.length ≤ c0_2) (h : backstepref12_Fits.f k l0_0 l0_1 l0_2 = some r) :
    Calls Try.prog 19 #[.agg #[.slice A0_0 l0_0.length c0_0, .slice A0_1 l0_1.length c0_1, .slice A0_2 l0_2.length c0_2]] w fun e w' => e = .returned (.bool r) ∧ Below w.heap.size w w' := by
  have hu35 := Try.underlying35
  have HR0_0 := Aside0.mk hr0_0
  have HC0_0 := Aside0.mk hc0_0
  clear hr0_0 hc0_0
  have HR0_1 := Aside0.mk hr0_1
  have HC0_1 := Aside0.mk hc0_1
  clear hr0_1 hc0_1
  have HR0_2 := Aside0.mk hr0_2
  have HC0_2 := Aside0.mk hc0_2
  clear hr0_2 hc0_2
  have HB := Aside0.mk (Below.refl w.heap.size w)
  have H : ((backstepref12_lists.f k l0_0 l0_1 l0_2).bind fun t122 => (backstepref12_Fits.l0 k t122 0 0)) = some r := h
  clear h
  replace H := Option.bind_eq_some_iff.mp H
  obtain ⟨t122, A20, H⟩ := H
  replace H : (backstepref12_Fits.l0 k t122 0 0) = some r := H
  have A2 := Aside0.mk A20
  clear A20
  have H' := Aside0.mk H
  clear H
  go_enter Try.func19, Try.ntmps19
  go_wp2_with (first | ((with_reducible refine gate_dst (N := 1) rfl ?_); refine box_event ?hg (N := 1) ?hd (cs := #[.slice A0_0 l0_0.length c0_0, .slice A0_1 l0_1.length c0_1, .slice A0_2 l0_2.length c0_2]) (t := 35) ?hr ?_; (case hd => rfl); (case hg => rfl); (case hr => first | (go_simp; done) | (go_simp; rfl)); intro gb121 hg w3 hbox hb; have n0_ := Aside0.mk (below_step (by repeat (first | (with_reducible first | exact HB.out | apply below_alloc | apply pw_below_drewN | apply below_drew1) | exact HB.out)) hb); have n1_ := Aside0.mk (hbox); have n2_ := Aside0.mk ((by rw [hg]; exact (below_size (by repeat (first | (with_reducible first | exact HB.out | apply below_alloc | apply pw_below_drewN | apply below_drew1) | exact HB.out))) : w.heap.size ≤ gb121)); have n3_ := Aside0.mk ((by rw [hg]; exact (below_size (by repeat (first | (with_reducible first | exact HB.out | apply below_alloc | apply pw_below_drewN | apply below_drew1) | exact HB.out))) : w.heap.size ≤ gb121)); clear HB; have HB := n0_; have BK121 := n1_; have GW121 := n2_; have GE121 := n3_; clear n0_ n1_ n2_ n3_; clear hb hbox hg; have hcz4_0 : w3.cell? ⟨gb121, 0, none⟩ = some (.slice A0_0 l0_0.length c0_0) := (blk_cell BK121.out 0).trans rfl; have hcz4_1 : w3.cell? ⟨gb121, 1, none⟩ = some (.slice A0_1 l0_1.length c0_1) := (blk_cell BK121.out 1).trans rfl; have hcz4_2 : w3.cell? ⟨gb121, 2, none⟩ = some (.slice A0_2 l0_2.length c0_2) := (blk_cell BK121.out 2).trans rfl; have hfz4_0 := blk_frozen BK121.out 0; have hfz4_1 := blk_frozen BK121.out 1; have hfz4_2 := blk_frozen BK121.out 2) | ((with_reducible refine gate_callee (f := 34) rfl ?_); refine goesL_ (some 8) rfl rfl Try.func34 (by kernel_rfl) rfl #[.agg #[.slice A0_0 l0_0.length c0_0, .slice A0_1 l0_1.length c0_1, .slice A0_2 l0_2.length c0_2]] rfl (by (try simp only [List.map_toArray, List.map_cons, List.map_nil]); first | done | rfl | (simp only [List.length_drop, List.length_take]; rfl)) ?_; (with_reducible refine (backstepref12_lists.calls k (fun k_ => k_ < w.heap.size) _ _ l0_0 (fun k_ => k_ < w.heap.size) _ _ l0_1 (fun k_ => k_ < w.heap.size) _ _ l0_2 t122 _ ?side1 ?side2 ?side3 A2.out).mono ?_); (case side1 => exact Kd.V_mk HC0_0.out (Kd.F_below (Kd.C_F (Kd.heap_slice 3 (Kd.heap_int .i64)) HR0_0.out) (by repeat (first | (with_reducible first | exact HB.out | apply below_alloc | apply pw_below_drewN | apply below_drew1 | refine below_set ?_ GE121.out) | exact HB.out)))); (case side2 => exact Kd.V_mk HC0_1.out (Kd.F_below (Kd.C_F (Kd.heap_int .i64) HR0_1.out) (by repeat (first | (with_reducible first | exact HB.out | apply below_alloc | apply pw_below_drewN | apply below_drew1 | refine below_set ?_ GE121.out) | exact HB.out)))); (case side3 => exact Kd.V_mk HC0_2.out (Kd.F_below (Kd.C_F (Kd.heap_int .i64) HR0_2.out) (by repeat (first | (with_reducible first | exact HB.out | apply below_alloc | apply pw_below_drewN | apply below_drew1 | refine below_set ?_ GE121.out) | exact HB.out)))); rintro e w5 ⟨v123, rfl, ho0, hb⟩; refine ⟨_, rfl, ?_⟩; have n0_ := Aside0.mk (Kd.N_lower (Kd.N_mono (ok' := fun k_ => k_ ≠ gb121) ho0 (fun k_ hk_ => Or.elim hk_ (fun hs_ => Or.elim hs_ (fun hs_ => fun e_ => Nat.not_le.2 hs_ (by rw [e_]; exact GW121.out)) (fun hs_ => Or.elim hs_ (fun hs_ => fun e_ => Nat.not_le.2 hs_ (by rw [e_]; exact GW121.out)) (fun hs_ => fun e_ => Nat.not_le.2 hs_ (by rw [e_]; exact GW121.out)))) (fun hn_ => (Kd.freshB (g := gb121) (o := .cells #[.slice A0_0 l0_0.length c0_0, .slice A0_1 l0_1.length c0_1, .slice A0_2 l0_2.length c0_2] 35 (0, 0)) (by (with_reducible repeat (first | refine blk_drewN ?_ _ | refine blk_drew ?_ | refine blk_alloc ?_ _)); exact BK121.out) k_ hn_)))) (below_size (by repeat (first | (with_reducible first | exact HB.out | apply below_alloc | apply pw_below_drewN | apply below_drew1 | refine below_set ?_ GE121.out) | exact HB.out)))); have n1_ := Aside0.mk (blk_below (g := gb121) (o := .cells #[.slice A0_0 l0_0.length c0_0, .slice A0_1 l0_1.length c0_1, .slice A0_2 l0_2.length c0_2] 35 (0, 0)) (by (with_reducible repeat (first | refine blk_drewN ?_ _ | refine blk_drew ?_ | refine blk_alloc ?_ _)); exact BK121.out) hb); have n2_ := Aside0.mk (below_step (by repeat (first | (with_reducible first | exact HB.out | apply below_alloc | apply pw_below_drewN | apply below_drew1 | refine below_set ?_ GE121.out) | exact HB.out)) hb); clear BK121; clear HB; have HO124 := n0_; have BK121 := n1_; have HB := n2_; clear n0_ n1_ n2_; (try clear hb); (try clear hb2); (try clear hk); (try clear hi); (try clear ho0)))
  go_loopg [4, 5] k (fun kq v4 v5 w' => ∃ (x4_1 : Int) (x5_1 : Int), v4 = .int .i64 x4_1 ∧ v5 = .int .i64 x5_1 ∧ Aside0 (backstepref12_Fits.l0 kq t122 x4_1 x5_1 = some r) ∧ Aside0 (kq ≤ k) ∧ Aside0 (Kd.N (Kd.slice 3 (Kd.int .i64)) 33 w' w.heap.size (fun k_ => k_ ≠ gb121) v123 t122) ∧ Aside0 (w'.heap[gb121]? = some (.cells #[(.slice A0_0 l0_0.length c0_0), (.slice A0_1 l0_1.length c0_1), (.slice A0_2 l0_2.length c0_2)] 35 (0, 0))) ∧ Aside0 (Below w.heap.size w w'))
  case atStart => exact ⟨(0), (0), (by first | rfl | (simp; done) | (simp [*]; done)), (by first | rfl | (simp; done) | (simp [*]; done)), H', ⟨Nat.le_refl _⟩, ⟨by (with_reducible repeat (first | apply Kd.N_alloc | apply Kd.N_drewN | apply Kd.N_drew)); exact HO124.out⟩, ⟨by (with_reducible repeat (first | refine blk_drewN ?_ _ | refine blk_drew ?_ | refine blk_alloc ?_ _)); exact BK121.out⟩, ⟨by repeat (first | (with_reducible first | exact HB.out | apply below_alloc | apply pw_below_drewN | apply below_drew1 | refine below_set ?_ GE121.out) | exact HB.out)⟩⟩
  case round =>
    clear H'
    try clear c1
    try clear p2
    try clear c3
    try clear hcz4_0
    try clear hcz4_1
    try clear hcz4_2
    try clear hfz4_0
    try clear hfz4_1
    try clear hfz4_2
    obtain ⟨x4_1, x5_1, rfl, rfl, HA, HK1, HO_3, BK121, HB⟩ := hrel
    cases gk with
    | zero => exact absurd HA.out (by simp [backstepref12_Fits.l0])
    | succ k1 =>
      have H := HA.out
      clear HA
      simp only [backstepref12_Fits.l0] at H
      by_cases c6 : x5_1 < (t122.length : Int)
      · rw [if_pos c6] at H
        have c6b0 : decide (x5_1 < (t122.length : Int)) = true := decide_eq_true c6
        clear c6
        by_cases c7 : 0 ≤ x5_1
        · rw [if_pos c7] at H
          have c7b0 : decide (0 ≤ x5_1) = true := decide_eq_true c7
          clear c7
          have H' := Aside0.mk H
          clear H
          obtain ⟨Ao8, co8, eo8⟩ := Kd.N_slice HO_3.out
          subst eo8
          have p125 : 0 ≤ (x5_1 : Int) := of_decide_eq_true (by first | (with_reducible assumption) | assumption)
          have q125 : x5_1 < (t122.length : Int) := of_decide_eq_true (by first | (with_reducible assumption) | assumption)
          obtain ⟨ad125, A125_0, c125_0, e125, hx125_0, hl125_0, hi125_0⟩ := at_L4 (Kd.N_reads' HO_3.out).2.2 x5_1 p125 q125
          cases e125
          obtain ⟨ce125, hce125, hMe125, hcc125⟩ := Kd.N_get HO_3.out [] x5_1 p125 (by first | exact q125 | exact of_decide_eq_true (by first | (with_reducible assumption) | assumption) | (have e_ := (Kd.N_reads' HO_3.out).1; omega))
          obtain ⟨ua125_0, uc125_0, rfl, ul125_0, ge125_0⟩ := Kd.FK_slice_open hMe125
          have hv125_0 := hcc125 0 _ rfl
          rw [Nat.add_zero, show ((Kd.slice 3 (Kd.int .i64))).sz = 1 from rfl, Nat.mul_one] at hv125_0
          replace hv125_0 := Option.some.inj (hv125_0.symm.trans hx125_0)
          injection hv125_0 with hva_ hvn_ hvc_
          rw [hva_] at ge125_0
          rw [hvc_] at ul125_0
          have HL125_0 := Aside0.mk (show Kd.V (Kd.int .i64) 3 _ w.heap.size _ _ (rd_L4 t122 x5_1) from Kd.V_mk ul125_0 ge125_0)
          clear hva_ hvn_ hvc_ ge125_0 ul125_0
          clear hcc125 hce125
          have HR125_0 := Aside0.mk hi125_0
          have HC125_0 := Aside0.mk hl125_0
          clear hi125_0 hl125_0
          replace p125 := eq_true p125
          replace q125 := eq_true q125
          go_wp2
          go_loopg [6] k1 (fun kq v6 w' => ∃ (x6_2 : Int), v6 = .int .i64 x6_2 ∧ Aside0 (backstepref12_Fits.l1 kq t122 (wrap64 (x4_1 + ((rd_L4 t122 x5_1).length : Int))) x5_1 x6_2 = some r) ∧ Aside0 (kq ≤ k1) ∧ Aside0 (Kd.N (Kd.slice 3 (Kd.int .i64)) 33 w' w.heap.size (fun k_ => k_ ≠ gb121) (.slice (some ad125) t122.length co8) t122) ∧ Aside0 (w'.heap[gb121]? = some (.cells #[(.slice A0_0 l0_0.length c0_0), (.slice A0_1 l0_1.length c0_1), (.slice A0_2 l0_2.length c0_2)] 35 (0, 0))) ∧ Aside0 (Kd.C (Kd.int .i64) w' A125_0 (rd_L4 t122 x5_1).length (rd_L4 t122 x5_1)) ∧ Aside0 (Below w.heap.size w w'))
          case atStart => exact ⟨(0), (by first | rfl | (simp; done) | (simp [*]; done)), H', ⟨Nat.le_refl _⟩, ⟨by (with_reducible repeat (first | apply Kd.N_alloc | apply Kd.N_drewN | apply Kd.N_drew)); exact HO_3.out⟩, ⟨by (with_reducible repeat (first | refine blk_drewN ?_ _ | refine blk_drew ?_ | refine blk_alloc ?_ _)); exact BK121.out⟩, ⟨by repeat (first | (with_reducible exact HR125_0.out) | (with_reducible refine Kd.C_alloc ?_ _) | (with_reducible refine Kd.C_drewN ?_ _) | (with_reducible refine Kd.C_drew ?_) | exact HR125_0.out)⟩, ⟨by repeat (first | (with_reducible first | exact HB.out | apply below_alloc | apply pw_below_drewN | apply below_drew1 | refine below_set ?_ GE121.out) | exact HB.out)⟩⟩
          case round =>
            clear H'
            try clear c1
            try clear p1
            try clear q1
            try clear hx1
            try clear p2
            try clear c3
            try clear c6
            try clear c6b0
            try clear p6
            try clear c7
            try clear c7b0
            try clear hcz4_0
            try clear hcz4_1
            try clear hcz4_2
            try clear hfz4_0
            try clear hfz4_1
            try clear hfz4_2
            try clear hx125_0
            try clear p125
            try clear p2
            try clear q125
            obtain ⟨x6_2, rfl, HA, HK2, HO_3, BK121, HR125_0, HB⟩ := hrel
            cases gk with
            | zero => exact absurd HA.out (by simp [backstepref12_Fits.l1])
            | succ k2 =>
              have H := HA.out
              clear HA
              simp only [backstepref12_Fits.l1] at H
              by_cases c9 : 0 ≤ x5_1
              · rw [if_pos c9] at H
                have c9b0 : decide (0 ≤ x5_1) = true := decide_eq_true c9
                clear c9
                by_cases c10 : x5_1 < (t122.length : Int)
                · rw [if_pos c10] at H
                  have c10b0 : decide (x5_1 < (t122.length : Int)) = true := decide_eq_true c10
                  clear c10
                  by_cases c11 : x6_2 < ((rd_L4 t122 x5_1).length : Int)
                  · rw [if_pos c11] at H
                    have c11b0 : decide (x6_2 < ((rd_L4 t122 x5_1).length : Int)) = true := decide_eq_true c11
                    clear c11
                    by_cases c12 : 0 ≤ x6_2
                    · rw [if_pos c12] at H
                      have c12b0 : decide (0 ≤ x6_2) = true := decide_eq_true c12
                      clear c12
                      by_cases c13 : (rd (rd_L4 t122 x5_1) x6_2) > 1099511627776
                      · rw [if_pos c13] at H
                        have c13b0 : decide (1099511627776 < (rd (rd_L4 t122 x5_1) x6_2)) = true := decide_eq_true c13
                        clear c13
                        obtain rfl := Option.some.inj H
                        have p126 : 0 ≤ (x5_1 : Int) := of_decide_eq_true (by first | (with_reducible assumption) | assumption)
                        have q126 : x5_1 < (t122.length : Int) := of_decide_eq_true (by first | (with_reducible assumption) | assumption)
                        obtain ⟨ad126, A126_0, c126_0, e126, hx126_0, hl126_0, hi126_0⟩ := at_L4 (Kd.N_reads' HO_3.out).2.2 x5_1 p126 q126
                        obtain rfl : ad125 = ad126 := (by injection e126)
                        obtain ⟨ce126, hce126, hMe126, hcc126⟩ := Kd.N_get HO_3.out [] x5_1 p126 (by first | exact q126 | exact of_decide_eq_true (by first | (with_reducible assumption) | assumption) | (have e_ := (Kd.N_reads' HO_3.out).1; omega))
                        obtain ⟨ua126_0, uc126_0, rfl, ul126_0, ge126_0⟩ := Kd.FK_slice_open hMe126
                        have hv126_0 := hcc126 0 _ rfl
                        rw [Nat.add_zero, show ((Kd.slice 3 (Kd.int .i64))).sz = 1 from rfl, Nat.mul_one] at hv126_0
                        replace hv126_0 := Option.some.inj (hv126_0.symm.trans hx126_0)
                        injection hv126_0 with hva_ hvn_ hvc_
                        rw [hva_] at ge126_0
                        rw [hvc_] at ul126_0
                        have HL126_0 := Aside0.mk (show Kd.V (Kd.int .i64) 3 _ w.heap.size _ _ (rd_L4 t122 x5_1) from Kd.V_mk ul126_0 ge126_0)
                        clear hva_ hvn_ hvc_ ge126_0 ul126_0
                        clear hcc126 hce126
                        have HR126_0 := Aside0.mk hi126_0
                        have HC126_0 := Aside0.mk hl126_0
                        clear hi126_0 hl126_0
                        replace p126 := eq_true p126
                        replace q126 := eq_true q126
                        have p127 : 0 ≤ (x5_1 : Int) := of_decide_eq_true (by first | (with_reducible assumption) | assumption)
                        have q127 : x5_1 < (t122.length : Int) := of_decide_eq_true (by first | (with_reducible assumption) | assumption)
                        obtain ⟨ad127, A127_0, c127_0, e127, hx127_0, hl127_0, hi127_0⟩ := at_L4 (Kd.N_reads' HO_3.out).2.2 x5_1 p127 q127
                        obtain rfl : ad125 = ad127 := (by injection e127)
                        obtain ⟨ce127, hce127, hMe127, hcc127⟩ := Kd.N_get HO_3.out [] x5_1 p127 (by first | exact q127 | exact of_decide_eq_true (by first | (with_reducible assumption) | assumption) | (have e_ := (Kd.N_reads' HO_3.out).1; omega))
                        obtain ⟨ua127_0, uc127_0, rfl, ul127_0, ge127_0⟩ := Kd.FK_slice_open hMe127
                        have hv127_0 := hcc127 0 _ rfl
                        rw [Nat.add_zero, show ((Kd.slice 3 (Kd.int .i64))).sz = 1 from rfl, Nat.mul_one] at hv127_0
                        replace hv127_0 := Option.some.inj (hv127_0.symm.trans hx127_0)
                        injection hv127_0 with hva_ hvn_ hvc_
                        rw [hva_] at ge127_0
                        rw [hvc_] at ul127_0
                        have HL127_0 := Aside0.mk (show Kd.V (Kd.int .i64) 3 _ w.heap.size _ _ (rd_L4 t122 x5_1) from Kd.V_mk ul127_0 ge127_0)
                        clear hva_ hvn_ hvc_ ge127_0 ul127_0
                        clear hcc127 hce127
                        have HR127_0 := Aside0.mk hi127_0
                        have HC127_0 := Aside0.mk hl127_0
                        clear hi127_0 hl127_0
                        replace p127 := eq_true p127
                        replace q127 := eq_true q127
                        have ea_ := Option.some.inj (hx126_0.symm.trans hx127_0)
                        injection ea_ with ea_ en_ ec_
                        subst ea_
                        subst ec_
                        clear en_
                        have p128 : 0 ≤ (x6_2 : Int) := of_decide_eq_true (by first | (with_reducible assumption) | assumption)
                        have q128 : x6_2 < ((rd_L4 t122 x5_1).length : Int) := of_decide_eq_true (by first | (with_reducible assumption) | assumption)
                        obtain ⟨ad128, e128, hx128_0⟩ := Kd.at_int (by repeat (first | (with_reducible exact HR127_0.out) | (with_reducible refine Kd.C_alloc ?_ _) | (with_reducible refine Kd.C_drewN ?_ _) | (with_reducible refine Kd.C_drew ?_) | exact HR127_0.out)) x6_2 p128 q128
                        cases e128
                        replace p128 := eq_true p128
                        replace q128 := eq_true q128
                        go_wp2
                        go_ret
                        exact ⟨by first | rfl | (simp [errW_none, errW_some] <;> rfl) | (simp [*, errW_none, errW_some] <;> rfl), by repeat (first | (with_reducible first | exact HB.out | apply below_alloc | apply pw_below_drewN | apply below_drew1 | refine below_set ?_ GE121.out) | exact HB.out)⟩
                      · rw [if_neg c13] at H
                        have c13b0 : decide (1099511627776 < (rd (rd_L4 t122 x5_1) x6_2)) = false := decide_eq_false c13
                        clear c13
                        by_cases c14 : (rd (rd_L4 t122 x5_1) x6_2) < (-1099511627776)
                        · rw [if_pos c14] at H
                          have c14b0 : decide ((rd (rd_L4 t122 x5_1) x6_2) < (-1099511627776)) = true := decide_eq_true c14
                          clear c14
                          obtain rfl := Option.some.inj H
                          have p126 : 0 ≤ (x5_1 : Int) := of_decide_eq_true (by first | (with_reducible assumption) | assumption)
                          have q126 : x5_1 < (t122.length : Int) := of_decide_eq_true (by first | (with_reducible assumption) | assumption)
                          obtain ⟨ad126, A126_0, c126_0, e126, hx126_0, hl126_0, hi126_0⟩ := at_L4 (Kd.N_reads' HO_3.out).2.2 x5_1 p126 q126
                          obtain rfl : ad125 = ad126 := (by injection e126)
                          obtain ⟨ce126, hce126, hMe126, hcc126⟩ := Kd.N_get HO_3.out [] x5_1 p126 (by first | exact q126 | exact of_decide_eq_true (by first | (with_reducible assumption) | assumption) | (have e_ := (Kd.N_reads' HO_3.out).1; omega))
                          obtain ⟨ua126_0, uc126_0, rfl, ul126_0, ge126_0⟩ := Kd.FK_slice_open hMe126
                          have hv126_0 := hcc126 0 _ rfl
                          rw [Nat.add_zero, show ((Kd.slice 3 (Kd.int .i64))).sz = 1 from rfl, Nat.mul_one] at hv126_0
                          replace hv126_0 := Option.some.inj (hv126_0.symm.trans hx126_0)
                          injection hv126_0 with hva_ hvn_ hvc_
                          rw [hva_] at ge126_0
                          rw [hvc_] at ul126_0
                          have HL126_0 := Aside0.mk (show Kd.V (Kd.int .i64) 3 _ w.heap.size _ _ (rd_L4 t122 x5_1) from Kd.V_mk ul126_0 ge126_0)
                          clear hva_ hvn_ hvc_ ge126_0 ul126_0
                          clear hcc126 hce126
                          have HR126_0 := Aside0.mk hi126_0
                          have HC126_0 := Aside0.mk hl126_0
                          clear hi126_0 hl126_0
                          replace p126 := eq_true p126
                          replace q126 := eq_true q126
                          have p127 : 0 ≤ (x5_1 : Int) := of_decide_eq_true (by first | (with_reducible assumption) | assumption)
                          have q127 : x5_1 < (t122.length : Int) := of_decide_eq_true (by first | (with_reducible assumption) | assumption)
                          obtain ⟨ad127, A127_0, c127_0, e127, hx127_0, hl127_0, hi127_0⟩ := at_L4 (Kd.N_reads' HO_3.out).2.2 x5_1 p127 q127
                          obtain rfl : ad125 = ad127 := (by injection e127)
                          obtain ⟨ce127, hce127, hMe127, hcc127⟩ := Kd.N_get HO_3.out [] x5_1 p127 (by first | exact q127 | exact of_decide_eq_true (by first | (with_reducible assumption) | assumption) | (have e_ := (Kd.N_reads' HO_3.out).1; omega))
                          obtain ⟨ua127_0, uc127_0, rfl, ul127_0, ge127_0⟩ := Kd.FK_slice_open hMe127
                          have hv127_0 := hcc127 0 _ rfl
                          rw [Nat.add_zero, show ((Kd.slice 3 (Kd.int .i64))).sz = 1 from rfl, Nat.mul_one] at hv127_0
                          replace hv127_0 := Option.some.inj (hv127_0.symm.trans hx127_0)
                          injection hv127_0 with hva_ hvn_ hvc_
                          rw [hva_] at ge127_0
                          rw [hvc_] at ul127_0
                          have HL127_0 := Aside0.mk (show Kd.V (Kd.int .i64) 3 _ w.heap.size _ _ (rd_L4 t122 x5_1) from Kd.V_mk ul127_0 ge127_0)
                          clear hva_ hvn_ hvc_ ge127_0 ul127_0
                          clear hcc127 hce127
                          have HR127_0 := Aside0.mk hi127_0
                          have HC127_0 := Aside0.mk hl127_0
                          clear hi127_0 hl127_0
                          replace p127 := eq_true p127
                          replace q127 := eq_true q127
                          have ea_ := Option.some.inj (hx126_0.symm.trans hx127_0)
                          injection ea_ with ea_ en_ ec_
                          subst ea_
                          subst ec_
                          clear en_
                          have p128 : 0 ≤ (x6_2 : Int) := of_decide_eq_true (by first | (with_reducible assumption) | assumption)
                          have q128 : x6_2 < ((rd_L4 t122 x5_1).length : Int) := of_decide_eq_true (by first | (with_reducible assumption) | assumption)
                          obtain ⟨ad128, e128, hx128_0⟩ := Kd.at_int (by repeat (first | (with_reducible exact HR127_0.out) | (with_reducible refine Kd.C_alloc ?_ _) | (with_reducible refine Kd.C_drewN ?_ _) | (with_reducible refine Kd.C_drew ?_) | exact HR127_0.out)) x6_2 p128 q128
                          cases e128
                          replace p128 := eq_true p128
                          replace q128 := eq_true q128
                          have p129 : 0 ≤ (x5_1 : Int) := of_decide_eq_true (by first | (with_reducible assumption) | assumption)
                          have q129 : x5_1 < (t122.length : Int) := of_decide_eq_true (by first | (with_reducible assumption) | assumption)
                          obtain ⟨ad129, A129_0, c129_0, e129, hx129_0, hl129_0, hi129_0⟩ := at_L4 (Kd.N_reads' HO_3.out).2.2 x5_1 p129 q129
                          obtain rfl : ad125 = ad129 := (by injection e129)
                          obtain ⟨ce129, hce129, hMe129, hcc129⟩ := Kd.N_get HO_3.out [] x5_1 p129 (by first | exact q129 | exact of_decide_eq_true (by first | (with_reducible assumption) | assumption) | (have e_ := (Kd.N_reads' HO_3.out).1; omega))
                          obtain ⟨ua129_0, uc129_0, rfl, ul129_0, ge129_0⟩ := Kd.FK_slice_open hMe129
                          have hv129_0 := hcc129 0 _ rfl
                          rw [Nat.add_zero, show ((Kd.slice 3 (Kd.int .i64))).sz = 1 from rfl, Nat.mul_one] at hv129_0
                          replace hv129_0 := Option.some.inj (hv129_0.symm.trans hx129_0)
                          injection hv129_0 with hva_ hvn_ hvc_
                          rw [hva_] at ge129_0
                          rw [hvc_] at ul129_0
                          have HL129_0 := Aside0.mk (show Kd.V (Kd.int .i64) 3 _ w.heap.size _ _ (rd_L4 t122 x5_1) from Kd.V_mk ul129_0 ge129_0)
                          clear hva_ hvn_ hvc_ ge129_0 ul129_0
                          clear hcc129 hce129
                          have HR129_0 := Aside0.mk hi129_0
                          have HC129_0 := Aside0.mk hl129_0
                          clear hi129_0 hl129_0
                          replace p129 := eq_true p129
                          replace q129 := eq_true q129
                          have ea_ := Option.some.inj (hx126_0.symm.trans hx129_0)
                          injection ea_ with ea_ en_ ec_
                          subst ea_
                          subst ec_
                          clear en_
                          have p130 : 0 ≤ (x6_2 : Int) := of_decide_eq_true (by first | (with_reducible assumption) | assumption)
                          have q130 : x6_2 < ((rd_L4 t122 x5_1).length : Int) := of_decide_eq_true (by first | (with_reducible assumption) | assumption)
                          obtain ⟨ad130, e130, hx130_0⟩ := Kd.at_int (by repeat (first | (with_reducible exact HR129_0.out) | (with_reducible refine Kd.C_alloc ?_ _) | (with_reducible refine Kd.C_drewN ?_ _) | (with_reducible refine Kd.C_drew ?_) | exact HR129_0.out)) x6_2 p130 q130
                          cases e130
                          replace p130 := eq_true p130
                          replace q130 := eq_true q130
                          go_wp2
                          go_ret
                          exact ⟨by first | rfl | (simp [errW_none, errW_some] <;> rfl) | (simp [*, errW_none, errW_some] <;> rfl), by repeat (first | (with_reducible first | exact HB.out | apply below_alloc | apply pw_below_drewN | apply below_drew1 | refine below_set ?_ GE121.out) | exact HB.out)⟩
                        · rw [if_neg c14] at H
                          have c14b0 : decide ((rd (rd_L4 t122 x5_1) x6_2) < (-1099511627776)) = false := decide_eq_false c14
                          clear c14
                          have H' := Aside0.mk H
                          clear H
                          have p126 : 0 ≤ (x5_1 : Int) := of_decide_eq_true (by first | (with_reducible assumption) | assumption)
                          have q126 : x5_1 < (t122.length : Int) := of_decide_eq_true (by first | (with_reducible assumption) | assumption)
                          obtain ⟨ad126, A126_0, c126_0, e126, hx126_0, hl126_0, hi126_0⟩ := at_L4 (Kd.N_reads' HO_3.out).2.2 x5_1 p126 q126
                          obtain rfl : ad125 = ad126 := (by injection e126)
                          obtain ⟨ce126, hce126, hMe126, hcc126⟩ := Kd.N_get HO_3.out [] x5_1 p126 (by first | exact q126 | exact of_decide_eq_true (by first | (with_reducible assumption) | assumption) | (have e_ := (Kd.N_reads' HO_3.out).1; omega))
                          obtain ⟨ua126_0, uc126_0, rfl, ul126_0, ge126_0⟩ := Kd.FK_slice_open hMe126
                          have hv126_0 := hcc126 0 _ rfl
                          rw [Nat.add_zero, show ((Kd.slice 3 (Kd.int .i64))).sz = 1 from rfl, Nat.mul_one] at hv126_0
                          replace hv126_0 := Option.some.inj (hv126_0.symm.trans hx126_0)
                          injection hv126_0 with hva_ hvn_ hvc_
                          rw [hva_] at ge126_0
                          rw [hvc_] at ul126_0
                          have HL126_0 := Aside0.mk (show Kd.V (Kd.int .i64) 3 _ w.heap.size _ _ (rd_L4 t122 x5_1) from Kd.V_mk ul126_0 ge126_0)
                          clear hva_ hvn_ hvc_ ge126_0 ul126_0
                          clear hcc126 hce126
                          have HR126_0 := Aside0.mk hi126_0
                          have HC126_0 := Aside0.mk hl126_0
                          clear hi126_0 hl126_0
                          replace p126 := eq_true p126
                          replace q126 := eq_true q126
                          have p127 : 0 ≤ (x5_1 : Int) := of_decide_eq_true (by first | (with_reducible assumption) | assumption)
                          have q127 : x5_1 < (t122.length : Int) := of_decide_eq_true (by first | (with_reducible assumption) | assumption)
                          obtain ⟨ad127, A127_0, c127_0, e127, hx127_0, hl127_0, hi127_0⟩ := at_L4 (Kd.N_reads' HO_3.out).2.2 x5_1 p127 q127
                          obtain rfl : ad125 = ad127 := (by injection e127)
                          obtain ⟨ce127, hce127, hMe127, hcc127⟩ := Kd.N_get HO_3.out [] x5_1 p127 (by first | exact q127 | exact of_decide_eq_true (by first | (with_reducible assumption) | assumption) | (have e_ := (Kd.N_reads' HO_3.out).1; omega))
                          obtain ⟨ua127_0, uc127_0, rfl, ul127_0, ge127_0⟩ := Kd.FK_slice_open hMe127
                          have hv127_0 := hcc127 0 _ rfl
                          rw [Nat.add_zero, show ((Kd.slice 3 (Kd.int .i64))).sz = 1 from rfl, Nat.mul_one] at hv127_0
                          replace hv127_0 := Option.some.inj (hv127_0.symm.trans hx127_0)
                          injection hv127_0 with hva_ hvn_ hvc_
                          rw [hva_] at ge127_0
                          rw [hvc_] at ul127_0
                          have HL127_0 := Aside0.mk (show Kd.V (Kd.int .i64) 3 _ w.heap.size _ _ (rd_L4 t122 x5_1) from Kd.V_mk ul127_0 ge127_0)
                          clear hva_ hvn_ hvc_ ge127_0 ul127_0
                          clear hcc127 hce127
                          have HR127_0 := Aside0.mk hi127_0
                          have HC127_0 := Aside0.mk hl127_0
                          clear hi127_0 hl127_0
                          replace p127 := eq_true p127
                          replace q127 := eq_true q127
                          have ea_ := Option.some.inj (hx126_0.symm.trans hx127_0)
                          injection ea_ with ea_ en_ ec_
                          subst ea_
                          subst ec_
                          clear en_
                          have p128 : 0 ≤ (x6_2 : Int) := of_decide_eq_true (by first | (with_reducible assumption) | assumption)
                          have q128 : x6_2 < ((rd_L4 t122 x5_1).length : Int) := of_decide_eq_true (by first | (with_reducible assumption) | assumption)
                          obtain ⟨ad128, e128, hx128_0⟩ := Kd.at_int (by repeat (first | (with_reducible exact HR127_0.out) | (with_reducible refine Kd.C_alloc ?_ _) | (with_reducible refine Kd.C_drewN ?_ _) | (with_reducible refine Kd.C_drew ?_) | exact HR127_0.out)) x6_2 p128 q128
                          cases e128
                          replace p128 := eq_true p128
                          replace q128 := eq_true q128
                          have p129 : 0 ≤ (x5_1 : Int) := of_decide_eq_true (by first | (with_reducible assumption) | assumption)
                          have q129 : x5_1 < (t122.length : Int) := of_decide_eq_true (by first | (with_reducible assumption) | assumption)
                          obtain ⟨ad129, A129_0, c129_0, e129, hx129_0, hl129_0, hi129_0⟩ := at_L4 (Kd.N_reads' HO_3.out).2.2 x5_1 p129 q129
                          obtain rfl : ad125 = ad129 := (by injection e129)
                          obtain ⟨ce129, hce129, hMe129, hcc129⟩ := Kd.N_get HO_3.out [] x5_1 p129 (by first | exact q129 | exact of_decide_eq_true (by first | (with_reducible assumption) | assumption) | (have e_ := (Kd.N_reads' HO_3.out).1; omega))
                          obtain ⟨ua129_0, uc129_0, rfl, ul129_0, ge129_0⟩ := Kd.FK_slice_open hMe129
                          have hv129_0 := hcc129 0 _ rfl
                          rw [Nat.add_zero, show ((Kd.slice 3 (Kd.int .i64))).sz = 1 from rfl, Nat.mul_one] at hv129_0
                          replace hv129_0 := Option.some.inj (hv129_0.symm.trans hx129_0)
                          injection hv129_0 with hva_ hvn_ hvc_
                          rw [hva_] at ge129_0
                          rw [hvc_] at ul129_0
                          have HL129_0 := Aside0.mk (show Kd.V (Kd.int .i64) 3 _ w.heap.size _ _ (rd_L4 t122 x5_1) from Kd.V_mk ul129_0 ge129_0)
                          clear hva_ hvn_ hvc_ ge129_0 ul129_0
                          clear hcc129 hce129
                          have HR129_0 := Aside0.mk hi129_0
                          have HC129_0 := Aside0.mk hl129_0
                          clear hi129_0 hl129_0
                          replace p129 := eq_true p129
                          replace q129 := eq_true q129
                          have ea_ := Option.some.inj (hx126_0.symm.trans hx129_0)
                          injection ea_ with ea_ en_ ec_
                          subst ea_
                          subst ec_
                          clear en_
                          have p130 : 0 ≤ (x6_2 : Int) := of_decide_eq_true (by first | (with_reducible assumption) | assumption)
                          have q130 : x6_2 < ((rd_L4 t122 x5_1).length : Int) := of_decide_eq_true (by first | (with_reducible assumption) | assumption)
                          obtain ⟨ad130, e130, hx130_0⟩ := Kd.at_int (by repeat (first | (with_reducible exact HR129_0.out) | (with_reducible refine Kd.C_alloc ?_ _) | (with_reducible refine Kd.C_drewN ?_ _) | (with_reducible refine Kd.C_drew ?_) | exact HR129_0.out)) x6_2 p130 q130
                          cases e130
                          replace p130 := eq_true p130
                          replace q130 := eq_true q130
                          go_wp2
                          go_roundg k2
                          case measure => have := HK1.out; have := HK2.out; omega
                          case rel => exact ⟨(wrap64 (x6_2 + 1)), (by first | rfl | (simp; done) | (simp [*]; done)), H', ⟨by have := HK1.out; have := HK2.out; omega⟩, ⟨by (with_reducible repeat (first | apply Kd.N_alloc | apply Kd.N_drewN | apply Kd.N_drew)); exact HO_3.out⟩, ⟨by (with_reducible repeat (first | refine blk_drewN ?_ _ | refine blk_drew ?_ | refine blk_alloc ?_ _)); exact BK121.out⟩, ⟨by repeat (first | (with_reducible exact HR125_0.out) | (with_reducible refine Kd.C_alloc ?_ _) | (with_reducible refine Kd.C_drewN ?_ _) | (with_reducible refine Kd.C_drew ?_) | exact HR125_0.out)⟩, ⟨by repeat (first | (with_reducible first | exact HB.out | apply below_alloc | apply pw_below_drewN | apply below_drew1 | refine below_set ?_ GE121.out) | exact HB.out)⟩⟩
                    · rw [if_neg c12] at H
                      exact absurd H (by simp)
                  · rw [if_neg c11] at H
                    have c11b0 : decide (x6_2 < ((rd_L4 t122 x5_1).length : Int)) = false := decide_eq_false c11
                    clear c11
                    have H' := Aside0.mk H
                    clear H
                    have p126 : 0 ≤ (x5_1 : Int) := of_decide_eq_true (by first | (with_reducible assumption) | assumption)
                    have q126 : x5_1 < (t122.length : Int) := of_decide_eq_true (by first | (with_reducible assumption) | assumption)
                    obtain ⟨ad126, A126_0, c126_0, e126, hx126_0, hl126_0, hi126_0⟩ := at_L4 (Kd.N_reads' HO_3.out).2.2 x5_1 p126 q126
                    obtain rfl : ad125 = ad126 := (by injection e126)
                    obtain ⟨ce126, hce126, hMe126, hcc126⟩ := Kd.N_get HO_3.out [] x5_1 p126 (by first | exact q126 | exact of_decide_eq_true (by first | (with_reducible assumption) | assumption) | (have e_ := (Kd.N_reads' HO_3.out).1; omega))
                    obtain ⟨ua126_0, uc126_0, rfl, ul126_0, ge126_0⟩ := Kd.FK_slice_open hMe126
                    have hv126_0 := hcc126 0 _ rfl
                    rw [Nat.add_zero, show ((Kd.slice 3 (Kd.int .i64))).sz = 1 from rfl, Nat.mul_one] at hv126_0
                    replace hv126_0 := Option.some.inj (hv126_0.symm.trans hx126_0)
                    injection hv126_0 with hva_ hvn_ hvc_
                    rw [hva_] at ge126_0
                    rw [hvc_] at ul126_0
                    have HL126_0 := Aside0.mk (show Kd.V (Kd.int .i64) 3 _ w.heap.size _ _ (rd_L4 t122 x5_1) from Kd.V_mk ul126_0 ge126_0)
                    clear hva_ hvn_ hvc_ ge126_0 ul126_0
                    clear hcc126 hce126
                    have HR126_0 := Aside0.mk hi126_0
                    have HC126_0 := Aside0.mk hl126_0
                    clear hi126_0 hl126_0
                    replace p126 := eq_true p126
                    replace q126 := eq_true q126
                    go_wp2
                    go_roundg k2
                    case measure => have := HK1.out; have := HK2.out; omega
                    case rel => exact ⟨((wrap64 (x4_1 + ((rd_L4 t122 x5_1).length : Int)))), (wrap64 (x5_1 + 1)), (by first | rfl | (simp; done) | (simp [*]; done)), (by first | rfl | (simp; done) | (simp [*]; done)), H', ⟨by have := HK1.out; have := HK2.out; omega⟩, ⟨by (with_reducible repeat (first | apply Kd.N_alloc | apply Kd.N_drewN | apply Kd.N_drew)); exact HO_3.out⟩, ⟨by (with_reducible repeat (first | refine blk_drewN ?_ _ | refine blk_drew ?_ | refine blk_alloc ?_ _)); exact BK121.out⟩, ⟨by repeat (first | (with_reducible first | exact HB.out | apply below_alloc | apply pw_below_drewN | apply below_drew1 | refine below_set ?_ GE121.out) | exact HB.out)⟩⟩
                · rw [if_neg c10] at H
                  exact absurd H (by simp)
              · rw [if_neg c9] at H
                exact absurd H (by simp)
        · rw [if_neg c7] at H
          exact absurd H (by simp)
      · rw [if_neg c6] at H
        have c6b0 : decide (x5_1 < (t122.length : Int)) = false := decide_eq_false c6
        clear c6
        obtain rfl := Option.some.inj H
        obtain ⟨Ao15, co15, eo15⟩ := Kd.N_slice HO_3.out
        subst eo15
        go_wp2
        go_ret
        exact ⟨by first | rfl | (simp [errW_none, errW_some] <;> rfl) | (simp [*, errW_none, errW_some] <;> rfl), by repeat (first | (with_reducible first | exact HB.out | apply below_alloc | apply pw_below_drewN | apply below_drew1 | refine below_set ?_ GE121.out) | exact HB.out)⟩
end Go.Proofs.Ytgcdeablfoomhaa.PAll
end
section
set_option linter.unusedVariables false
set_option linter.unusedSimpArgs false
namespace Go.Proofs.Ytgcdeablfoomhaa
open Go.RowKit
/-- The blocks in S lie as_ they lay. -/
def KeepS (S : Nat → Prop) (W W' : World) : Prop := W.heap.size ≤ W'.heap.size ∧ ∀ b, S b → W'.heap[b]? = W.heap[b]?
theorem KeepS.refl (S : Nat → Prop) (W : World) : KeepS S W W := ⟨Nat.le_refl _, fun _ _ => rfl⟩
theorem KeepS.trans {S : Nat → Prop} {X Y Z : World} (h : KeepS S X Y) (k : KeepS S Y Z) : KeepS S X Z := ⟨Nat.le_trans h.1 k.1, fun b hb => (k.2 b hb).trans (h.2 b hb)⟩
theorem KeepS.mono {S S' : Nat → Prop} {X Y : World} (h : KeepS S X Y) (hs : ∀ b, S' b → S b) : KeepS S' X Y := ⟨h.1, fun b hb => h.2 b (hs b hb)⟩
/-- A step of the iterator's own: whatever lies outside of T lies as_ it lay. -/
structure StepT (T : Nat → Prop) (A B : World) : Prop where
  os : B.os = A.os
  tape : B.tape = A.tape
  output : B.output = A.output
  size : A.heap.size ≤ B.heap.size
  block : ∀ k, k < A.heap.size → ¬ T k → B.heap[k]? = A.heap[k]?
theorem StepT.refl (T : Nat → Prop) (A : World) : StepT T A A := ⟨rfl, rfl, rfl, Nat.le_refl _, fun _ _ _ => rfl⟩
theorem StepT.of_below {T : Nat → Prop} {A B : World} (h : Below A.heap.size A B) : StepT T A B := ⟨h.os, h.tape, h.output, h.size, fun k hk _ => h.block k hk⟩
theorem StepT.set {T : Nat → Prop} (A : World) (p : Addr) (v : Value) (hp : T p.block) : StepT T A (A.setCell p v) :=
  ⟨rfl, rfl, rfl, by simp, fun k hk hn => Below.heap_setCell A p v k (fun e => hn (e ▸ hp))⟩
/-- T' is T and blocks that are new. -/
def Grows (T T' : Nat → Prop) (A : World) : Prop := (∀ k, T k → T' k) ∧ ∀ k, T' k → T k ∨ A.heap.size ≤ k
theorem Grows.refl (T : Nat → Prop) (A : World) : Grows T T A := ⟨fun _ h => h, fun _ h => .inl h⟩
def Abide {β : Type} (J : (Nat → Prop) → β → World → Prop) : Prop := ∀ T T' s A B, J T s A → StepT T A B → Grows T T' A → J T' s B
/-- The contract of an iterator value: whatever lay when it was made lies there (Below); the caller's invariant J abides its steps; at each yield it hands over x, whose memory (G) is new: from the heap's size at Az on. -/
def SeqT {α β : Type} (P : Program) (g : Nat) (lb : Array Value) (encs : α → β → Array Value) (G : Nat → α → β → World → Prop) (S Sp : List α → Prop) (w : World) : Prop :=
  ∀ (l : Nat) (J Jx : (Nat → Prop) → List α → World → Prop) (W : World), Below w.heap.size w W → Abide J → Abide Jx →
    (∀ T pre x y Az A, J T pre Az → (∀ k, T k → k < Az.heap.size) → Below Az.heap.size Az A → G Az.heap.size x y A → YieldAt Fence.wide 0 P l (encs x y) A fun e B =>
      (e = .returned (.bool true) ∧ J T (pre ++ [x]) B ∧ KeepS T A B) ∨ (e = .returned (.bool false) ∧ Jx T (pre ++ [x]) B ∧ KeepS T A B)) →
    J (fun _ => False) [] W →
    Calls P g (#[.func (.yield l) #[] #[]] ++ lb) W fun e W' => (∃ v, e = .returned v) ∧ ((∃ T xs, S xs ∧ J T xs W') ∨ (∃ T pre, Sp pre ∧ Jx T pre W'))
/-- How the body of a round may be left. -/
def postT {α : Type} (T : Nat → Prop) (I : (Nat → Prop) → List α → World → Prop) (Ix : Code → (Nat → Prop) → List α → World → Prop) (xs : List α) (W : World) : Exit → Act → World → Prop
  | .normal, _, W' => KeepsOthers W W' ∧ KeepS T W W' ∧ I T xs W'
  | .ret, _, W' => KeepsOthers W W' ∧ KeepS T W W' ∧ Ix .ret T xs W'
  | .exit id, _, W' => KeepsOthers W W' ∧ KeepS T W W' ∧ Ix (.exit id) T xs W'
  | .goto t, _, W' => KeepsOthers W W' ∧ KeepS T W W' ∧ Ix (.goto t) T xs W'
  | .panic _, _, _ => False
  | .outgrown, _, _ => False
theorem below_putObj {z l : Nat} {A B : World} (o' : Obj) (h : Below z A B) (hl : l < z) (hz : z ≤ A.heap.size) : Below z (A.putObj l o') (B.putObj l o') := by
  refine ⟨h.os, h.tape, h.output, by simp [h.size], fun k hk => ?_⟩
  by_cases e : k = l
  · subst e
    rw [World.putObj_heap_same (by have := h.size; omega), World.putObj_heap_same (by omega)]
  · rw [World.putObj_heap_other e, World.putObj_heap_other e]
    exact h.block k hk
theorem abide_rec {l : Nat} {o : Obj} {A B : World} {T : Nat → Prop} (h : A.heap[l]? = some o) (hn : ¬ T l) (hs : StepT T A B) : B.heap[l]? = some o := (hs.block l (Array.getElem?_eq_some_iff.1 h).1 hn).trans h
theorem not_grown {l : Nat} {o : Obj} {A : World} {T T' : Nat → Prop} (h : A.heap[l]? = some o) (hn : ¬ T l) (hg : Grows T T' A) : ¬ T' l := fun ht => by
  rcases hg.2 l ht with h1 | h1
  · exact hn h1
  · have := (Array.getElem?_eq_some_iff.1 h).1; omega
end Go.Proofs.Ytgcdeablfoomhaa
end
section
set_option linter.unusedVariables false
set_option linter.unusedSimpArgs false
namespace Go.Proofs.Ytgcdeablfoomhaa.PAll
open Go.RowKit Go.Proofs.YtgcdeablfoomhaaW.PrintWords Go.Proofs.YtgcdeablfoomhaaW.PrintLast Go.Proofs.YtgcdeablfoomhaaW.PrintMore
theorem wrap64_of' {n : Int} (h : -9223372036854775808 ≤ n) (h2 : n < 9223372036854775808) : wrap64 n = n := by
  unfold wrap64; omega
abbrev nil3 : Value := .slice none 0 0
/-- A box that holds a state. -/
def BoxA (W : World) (B : Nat) (s0 s1 s2 : Value) : Prop := W.heap[B]? = some (.cells #[s0, s1, s2] 35 (0, 0))
section
variable {W W' : World} {B b : Nat} {s0 s1 s2 : Value}
theorem BoxA.c0 (h : BoxA W B s0 s1 s2) : W.cell? ⟨B, 0, none⟩ = some s0 := by simp [World.cell?, show W.heap[B]? = _ from h]
theorem BoxA.c1 (h : BoxA W B s0 s1 s2) : W.cell? ⟨B, 1, none⟩ = some s1 := by simp [World.cell?, show W.heap[B]? = _ from h]
theorem BoxA.c2 (h : BoxA W B s0 s1 s2) : W.cell? ⟨B, 2, none⟩ = some s2 := by simp [World.cell?, show W.heap[B]? = _ from h]
theorem BoxA.f0 (h : BoxA W B s0 s1 s2) : W.frozen? ⟨B, 0, none⟩ = false := by simp [World.frozen?, show W.heap[B]? = _ from h]
theorem BoxA.f1 (h : BoxA W B s0 s1 s2) : W.frozen? ⟨B, 1, none⟩ = false := by simp [World.frozen?, show W.heap[B]? = _ from h]
theorem BoxA.f2 (h : BoxA W B s0 s1 s2) : W.frozen? ⟨B, 2, none⟩ = false := by simp [World.frozen?, show W.heap[B]? = _ from h]
theorem BoxA.lt (h : BoxA W B s0 s1 s2) : B < W.heap.size := (Array.getElem?_eq_some_iff.1 h).1
theorem BoxA.below (h : BoxA W B s0 s1 s2) (hb : Below b W W') (hB : B < b) : BoxA W' B s0 s1 s2 := (hb.block B hB).trans h
theorem BoxA.alloc (h : BoxA W B s0 s1 s2) (o : Obj) : BoxA (W.alloc o) B s0 s1 s2 := h.below (b := B + 1) ((Below.refl _ W).alloc (by have := h.lt; omega) o) (by omega)
theorem BoxA.new (W : World) (s0 s1 s2 : Value) : BoxA (W.alloc (.cells #[s0, s1, s2] 35)) W.heap.size s0 s1 s2 := World.alloc_heap_new W _
theorem BoxA.set0 (h : BoxA W B s0 s1 s2) (u : Value) : BoxA (W.setCell ⟨B, 0, none⟩ u) B u s1 s2 := heap_setCell_same W B 0 _ 35 u h
theorem BoxA.set1 (h : BoxA W B s0 s1 s2) (u : Value) : BoxA (W.setCell ⟨B, 1, none⟩ u) B s0 u s2 := heap_setCell_same W B 1 _ 35 u h
theorem BoxA.set2 (h : BoxA W B s0 s1 s2) (u : Value) : BoxA (W.setCell ⟨B, 2, none⟩ u) B s0 s1 u := heap_setCell_same W B 2 _ 35 u h
theorem BoxA.far (h : BoxA W B s0 s1 s2) {p : Addr} (hp : B ≠ p.block) (u : Value) : BoxA (W.setCell p u) B s0 s1 s2 := (heap_setCell_other W p B u hp).trans h
theorem BoxA.kept {ob : Option Nat} (h : BoxA W B s0 s1 s2) (hg : W.grownBy W' ob) (hne : some B ≠ ob) : BoxA W' B s0 s1 s2 := (hg.block B h.lt hne).trans h
theorem boxA_ne {α : Type} {d : Kd α} {e : Nat} {base : Nat} {ok : Nat → Prop} {v : Value} {xs : List α} (h : d.R e W base ok v xs) (hb : BoxA W B s0 s1 s2) (hte : (35 : Nat) ≠ e) : some B ≠ v.ownBlock := by
  intro he
  obtain ⟨inner, ho⟩ := Kd.R_own h
  obtain ⟨cells, hc⟩ := own_typed ho B he.symm
  rw [show W.heap[B]? = _ from hb] at hc
  injection hc with hc
  injection hc with _ h2
  exact hte h2
theorem R_setA {base : Nat} {ok : Nat → Prop} {v u : Value} {j : Nat} {xs : List (List Int)} (h : Kd.R (Kd.slice 3 (Kd.int .i64)) 33 W base ok v xs) (hbx : BoxA W B s0 s1 s2) : Kd.R (Kd.slice 3 (Kd.int .i64)) 33 (W.setCell ⟨B, j, none⟩ u) base ok v xs :=
  Kd.R_set h hbx (by decide) j u
theorem R_setI {base : Nat} {ok : Nat → Prop} {v u : Value} {j : Nat} {xs : List Int} (h : Kd.R (Kd.int .i64) 3 W base ok v xs) (hbx : BoxA W B s0 s1 s2) : Kd.R (Kd.int .i64) 3 (W.setCell ⟨B, j, none⟩ u) base ok v xs :=
  Kd.R_set h hbx (by decide) j u
end
section
variable {P : Program} {ops : Array Oper} {o : Oper} {a : Act} {Q : Exit → Act → World → Prop} {Kc : Act → World → Prop} {α : Type}
/-- A store of a whole one-cell element of a row of one's own, in a region that draws its order. -/
theorem R_store_step (d : Kd α) {W : World} (base : Nat) (hw : Region.wanted o (yielded ops a.tmps) = true) (hN : o.dst = none) (t : TypeId) (p x : Operand) (ho : o.op = .store t p x) (e : TypeId) {g n cap : Nat} (i : Int) (xs : List α) (x' : α) (u : Value) (ok okp : Nat → Prop)
    (haddr : a.eval p = .pointer (some ⟨g, i.toNat, none⟩)) (hx : a.eval x = u) (hu : u.cells.toList = [u]) (ht : (P.info? t).map (·.size) = some 1) (h1 : u.oneCell' = true) (hsz : d.sz = 1)
    (HO : d.R e W base ok (.slice (some ⟨g, 0, none⟩) n cap) xs) (h0 : 0 ≤ i) (hi : i < n) {c : List Value} (hcl : c.length = d.sz) (hcc : ∀ j u, c[j]? = some u → W.cell? ⟨g, i.toNat * d.sz + j, none⟩ = some u)
    (hM : d.M W base okp x' [u]) (hokp : ∀ k, okp k → ok k ∧ k ≠ g)
    (h : ∀ w1, w1 = W.setCell ⟨g, i.toNat, none⟩ u → d.R e w1 base ok (.slice (some ⟨g, 0, none⟩) n cap) (xs.set i.toNat x') → W.grownBy w1 (some g) → Kc a w1) :
    if Region.wanted o (yielded ops a.tmps) = true then Oper.wp P o a W Kc Q else Kc (a.put none undef) W := by
  have hoff : i.toNat * d.sz + 0 = i.toNat := by rw [hsz]; omega
  have hsg : W.setCells g (i.toNat * d.sz + 0) [u] = W.setCell ⟨g, i.toNat, none⟩ u := by rw [hoff]; rfl
  obtain ⟨hrow, hg⟩ := Kd.R_seg (j := 0) (seg := [u]) (x' := x') HO i h0 hi hcl hcc (by rw [hsz]; simp) (by
    have : c.take 0 ++ [u] ++ c.drop (0 + [u].length) = [u] := by
      rw [hsz] at hcl
      match c, hcl with
      | [y], _ => rfl
    rw [this]; exact hM) hokp
  rw [hsg] at hrow hg
  have hnx : n = xs.length := (Kd.R_reads' HO).1
  obtain ⟨_, inner, hown, hr⟩ := HO
  have hil : i.toNat < n := by omega
  have hrun : (Instr.storeAt t (.pointer (some ⟨g, i.toNat, none⟩)) u).run P W = .ok () (W.setCell ⟨g, i.toNat, none⟩ u) := by
    rcases hown.2 with ⟨hv, _⟩ | ⟨g', cap', cur, hv, hb, hh, hnc, hcm, hcs, _⟩
    · cases hv
    injection hv with ha _ hc
    injection ha with ha
    injection ha with hg'
    subst hg'; subst hc
    exact run_store_run t u [u] hh hu ht (by rw [hcs, hsz]; simp; omega) (by simpa using h1)
  refine skip_ hw hN (w1 := W.setCell ⟨g, i.toNat, none⟩ u) ?_ (h _ rfl hrow hg)
  simp only [execOp, ho, haddr, hx, Sem.run_bind, Sem.run_pure, Result.andThen_ok, hrun]
end
end Go.Proofs.Ytgcdeablfoomhaa.PAll
end
section
set_option linter.unusedVariables false
set_option linter.unusedSimpArgs false
namespace Go.Proofs.Ytgcdeablfoomhaa.PAll
open Go.RowKit Go.Proofs.YtgcdeablfoomhaaW.PrintWords Go.Proofs.YtgcdeablfoomhaaW.PrintLast Go.Proofs.YtgcdeablfoomhaaW.PrintMore
attribute [local go_sem] max2_int min2_int max_two min_two max_three min_three max_four min_four
theorem tab49_7 : rtab .any (opsOf Try.f49 7) = (true, [([], []), ([0], [0]), ([], []), ([], []), ([], []), ([4], [4]), ([5], [5]), ([6], [6]), ([], []), ([7, 8], [7, 8]), ([9], [9]), ([3, 10], [3, 10]), ([1, 2, 0, 1, 2, 3, 4, 5, 6, 7, 8, 9, 10, 11], [1, 2]), ([12, 11, 11, 0, 1, 2, 3, 4, 5, 6, 7, 8, 9, 10, 11], [11, 12])]) := by kernel_rfl
theorem bits49_7 : waitsOk (true, [([], []), ([0], [0]), ([], []), ([], []), ([], []), ([4], [4]), ([5], [5]), ([6], [6]), ([], []), ([7, 8], [7, 8]), ([9], [9]), ([3, 10], [3, 10]), ([1, 2, 0, 1, 2, 3, 4, 5, 6, 7, 8, 9, 10, 11], [1, 2]), ([12, 11, 11, 0, 1, 2, 3, 4, 5, 6, 7, 8, 9, 10, 11], [11, 12])]).2 [0, 1, 0, 0, 0, 16, 48, 112, 0, 496, 1008, 2040, 4095, 8191] = true := by decide +kernel
theorem rd_L4_init {cs : List (List Int)} {inp : List Int} {j : Nat} (h : j < cs.length) : rd_L4 (cs ++ [inp]) (j : Int) = cs[j] := by
  unfold rd_L4; simp [List.getD_eq_getElem?_getD, List.getElem?_append_left h, h]
theorem rd_L4_last {cs : List (List Int)} {inp : List Int} : rd_L4 (cs ++ [inp]) (cs.length : Int) = inp := by
  unfold rd_L4; simp
theorem take_put {cs : List (List Int)} {inp : List Int} {j : Nat} (h : j < cs.length) : (cs.take j ++ List.replicate (cs.length - j) []).set j (rd_L4 (cs ++ [inp]) (j : Int)) = cs.take (j + 1) ++ List.replicate (cs.length - (j + 1)) [] := by
  rw [rd_L4_init h]
  obtain ⟨q, hq⟩ : ∃ q, cs.length - j = q + 1 := ⟨cs.length - j - 1, by omega⟩
  have hq2 : cs.length - (j + 1) = q := by omega
  rw [hq, hq2, List.replicate_succ, List.take_succ_eq_append_getElem h, List.set_append_right _ _ (by simp; omega), List.length_take, Nat.min_eq_left (Nat.le_of_lt h), Nat.sub_self]
  simp only [List.set_cons_zero, List.append_assoc, List.singleton_append]
theorem rd_L4_le {xs : List (List Int)} (h : ∀ r ∈ xs, r.length ≤ 5000) (i : Int) : (rd_L4 xs i).length ≤ 5000 := by
  unfold rd_L4
  rw [List.getD_eq_getElem?_getD]
  cases he : xs[i.toNat]? with
  | none => simp
  | some r => exact h r (List.mem_of_getElem? he)
theorem R_form' {α : Type} {d : Kd α} {e : Nat} {W : World} {base : Nat} {ok : Nat → Prop} {v : Value} {xs : List α} (h : d.R e W base ok v xs) (hb : ∃ b, v.ownBlock = some b ∧ W.heap.size ≤ b + 1 ∨ v.ownBlock = some b) : ∃ g cap, v = .slice (some ⟨g, 0, none⟩) xs.length cap ∧ base ≤ g := by
  obtain ⟨b, hb⟩ := hb
  have hb : v.ownBlock = some b := by rcases hb with h1 | h1 <;> first | exact h1.1 | exact h1
  obtain ⟨_, inner, ho, hr⟩ := h
  rcases ho.2 with ⟨rfl, _⟩ | ⟨g, cap, cur, rfl, hg, _⟩
  · simp [Value.ownBlock] at hb
  · exact ⟨g, cap, rfl, hg⟩
/-- What search.state hands back. -/
def StPost (w : World) (cs : List (List Int)) (inp : List Int) (e : Ending) (w' : World) : Prop :=
  ∃ v0 v1 : Value, e = .returned (.agg #[v0, v1, nil3]) ∧ Kd.R (Kd.slice 3 (Kd.int .i64)) 33 w' w.heap.size (fun _ => True) v0 cs ∧ Kd.R (Kd.int .i64) 3 w' w.heap.size (fun _ => True) v1 inp ∧ Below w.heap.size w w'
set_option maxRecDepth 100000 in
set_option maxHeartbeats 8000000 in
theorem sea_state (cs : List (List Int)) (inp : List Int) (B : Nat) (AL : Option Addr) (cL : Nat) (w : World) (hf : w.cell? ⟨B, 4, none⟩ = some (.slice AL (cs.length + 1) cL)) (hr : Kd.C (Kd.slice 3 (Kd.int .i64)) w AL (cs.length + 1) (cs ++ [inp]))
    (hn : cs.length ≤ 1000) (hl : ∀ r ∈ cs ++ [inp], r.length ≤ 5000) :
    Calls Try.prog 49 #[.pointer (some ⟨B, 0, none⟩)] w fun e w' => StPost w cs inp e w' := by
  obtain ⟨M0, hM0⟩ : ∃ M0, M0 = w.heap.size := ⟨_, rfl⟩
  have hBlt : B < w.heap.size := World.block_lt_of_cell? w _ hf
  have hw1n : wrap64 (((cs.length + 1 : Nat) : Int) - 1) = (cs.length : Int) := by rw [wrap64_of' (by omega) (by omega)]; omega
  have hw1n' : wrap64 ((cs.length : Int) + 1 - 1) = (cs.length : Int) := by rw [wrap64_of' (by omega) (by omega)]; omega
  have HF := Lib.hid hf
  have HR := Lib.hid hr
  have HRL := Lib.hid (rd_L4_le hl)
  clear hf hr hl
  go_enter Try.func49, Try.ntmps49
  go_upto_region 2 with (fail)
  obtain ⟨w1, hw1⟩ : ∃ w1, w1 = (w.alloc (.cells #[nil3, nil3, nil3] 35)).alloc (.cells #[nil3, nil3, nil3] 35) := ⟨_, rfl⟩
  rw [← hw1]
  have hz1 : BoxA w1 w.heap.size nil3 nil3 nil3 := by rw [hw1]; exact (BoxA.new w _ _ _).alloc _
  obtain ⟨Qb, hQb⟩ : ∃ Qb, Qb = w.heap.size + 1 := ⟨_, rfl⟩
  rw [← hQb]
  have hq1 : BoxA w1 Qb nil3 nil3 nil3 := by
    rw [hw1, hQb]
    have := BoxA.new (w.alloc (.cells #[nil3, nil3, nil3] 35)) nil3 nil3 nil3
    rwa [World.size_alloc] at this
  have hb1 : Below w.heap.size w w1 := by rw [hw1]; exact below_alloc (below_alloc (Below.refl _ _) _) _
  have hf1 := (hb1.cell (p := ⟨B, 4, none⟩) hBlt).trans HF.out
  have hcQ := hq1.c0
  have hfQ := hq1.f0
  have hBQ : (B = Qb) = False := eq_false (by omega)
  have hBQ' : B ≠ Qb := by omega
  have HQB := Lib.hid hQb
  have HM0 := Lib.hid hM0
  clear hQb hM0
  have HZ := Lib.hid hz1
  have HQ := Lib.hid hq1
  have HB := Lib.hid hb1
  clear hz1 hq1 hb1 hw1
  go_upto_region 3 with (fail)
  go_wp2_with ((with_reducible refine gate_dst (N := 13) rfl ?_); refine Kd.R_make (Kd.slice 3 (Kd.int .i64)) (w0 := w1) w1.heap.size 33 rfl (N := 13) rfl 32 _ _ rfl (cs.length : Int) rfl rfl Try.underlying32 (.slice none 0 0) 24 info33 rfl (by decide) (by omega) ([] : List Int) (ok := fun _ => True) (okp := fun _ => True) ⟨nil3, rfl, Kd.R_nil _ _ _ _ _⟩ (fun _ hk => hk) trivial (by omega) (by simp; omega) (Below.refl _ _) (Nat.le_refl _) ?_; intro v3 w3 ho3 hb3 hg3 hnew3; have hz3 := HZ.out.below hb3 HZ.out.lt; have hq3 := HQ.out.below hb3 HQ.out.lt; have hcq3 := hq3.c0; have hfq3 := hq3.f0; have hbw3 := HB.out.trans (hb3.mono HB.out.size); obtain ⟨G, cG, ev3, hGm⟩ := R_form' ho3 (by obtain ⟨b_, h1_, _⟩ := hnew3; exact ⟨b_, .inr h1_⟩); subst ev3)
  have hrg : Kd.R (Kd.slice 3 (Kd.int .i64)) 33 w3 M0 (fun _ => True) (.slice (some ⟨G, 0, none⟩) cs.length cG) (List.replicate cs.length []) := by
    have := Kd.R_lower ho3 (base' := M0) (by rw [HM0.out]; exact HB.out.size)
    simpa using this
  simp only [Int.toNat_natCast, List.length_replicate] at hnew3 ⊢
  have hGM : M0 ≤ G := by rw [HM0.out]; have := HB.out.size; omega
  clear ho3 hnew3 hg3 hcQ hfQ hf1 hcq3 hfq3 hGm
  have HGM := Lib.hid hGM
  have HRG0 := Lib.hid hrg
  have HZ3 := Lib.hid hz3
  have HQ3 := Lib.hid hq3
  have HB3 := Lib.hid hbw3
  clear hGM hrg hz3 hq3 hbw3 hb3 HZ HQ HB
  go_loopg [18] cs.length (fun kq v18 wr => ∃ (j : Nat), kq + j = cs.length ∧ v18 = .int .i64 j ∧ Aside0 (Kd.R (Kd.slice 3 (Kd.int .i64)) 33 wr M0 (fun _ => True) (.slice (some ⟨G, 0, none⟩) cs.length cG) (cs.take j ++ List.replicate (cs.length - j) [])) ∧
      Aside0 (BoxA wr Qb (.slice (some ⟨G, 0, none⟩) cs.length cG) nil3 nil3) ∧ Aside0 (BoxA wr w.heap.size nil3 nil3 nil3) ∧ Aside0 (Below w.heap.size w wr))
  case atStart => exact ⟨0, rfl, rfl, ⟨R_setA (j := 0) (u := .slice (some ⟨G, 0, none⟩) cs.length cG) HRG0.out HQ3.out⟩, ⟨HQ3.out.set0 (.slice (some ⟨G, 0, none⟩) cs.length cG)⟩, ⟨HZ3.out.far (by show w.heap.size ≠ Qb; rw [HQB.out]; omega) _⟩, ⟨HB3.out.setCell (p := ⟨Qb, 0, none⟩) (by show w.heap.size ≤ Qb; rw [HQB.out]; omega) _⟩⟩
  case round =>
    clear HRG0 HZ3 HQ3 HB3
    obtain ⟨j, hjk, rfl, HRG, HBQ, HBZ, HB⟩ := hrel
    have hf1 := (HB.out.cell (p := ⟨B, 4, none⟩) hBlt).trans HF.out
    have HBL := Lib.hid hBlt
    clear hBlt
    by_cases hj : j < cs.length
    · have hi1 : decide ((j : Int) < (cs.length : Int)) = true := decide_eq_true (by omega)
      have hid : decide (j < cs.length) = true := decide_eq_true hj
      obtain ⟨ad, Ai, ci, hA, hxc, hxl, hxr⟩ := at_L4 (Kd.C_below HR.out HB.out) (j : Int) (by omega) (by omega)
      subst hA
      simp only [Int.toNat_natCast] at hxc
      have HXL := Lib.hid hxl
      have HRJ0 := Lib.hid hxr
      have HXC := Lib.hid hxc
      have HF1 := Lib.hid hf1
      clear hxl hxr hxc hf1
      have p1 : (0 ≤ (j : Int)) = True := eq_true (by omega)
      have p2 : ((j : Int) < (cs.length : Int)) = True := eq_true (by omega)
      have p3 : ((j : Int) < (cs.length : Int) + 1) = True := eq_true (by omega)
      have p4 : (j < cs.length) = True := eq_true hj
      have p5 : (j < cs.length + 1) = True := eq_true (by omega)
      have hwj : wrap64 ((j : Int) + 1) = (j : Int) + 1 := wrap64_of' (by omega) (by omega)
      go_upto_region 7 with (fail)
      obtain ⟨wd, hwd⟩ : ∃ wd, wd = wr.drew := ⟨_, rfl⟩
      have nb : Below wr.heap.size wr wd := by rw [hwd]; exact below_drew1 (Below.refl _ _)
      have nHRG := Kd.R_below HRG.out nb
      have nHBQ := HBQ.out.below nb HBQ.out.lt
      have nHBZ := HBZ.out.below nb HBZ.out.lt
      have nHB := HB.out.trans (nb.mono HB.out.size)
      have nHRJ := Kd.C_below HRJ0.out nb
      have nHX1 := (nb.cell (World.block_lt_of_cell? _ _ HF1.out)).trans HF1.out
      have nHX2 := (nb.cell (World.block_lt_of_cell? _ _ HXC.out)).trans HXC.out
      have nsz : M0 ≤ wd.heap.size := by rw [HM0.out]; exact nHB.size
      clear HRG HBQ HBZ HB HRJ0 HF1 HXC nb
      have HRG := Lib.hid nHRG
      have HBQ := Lib.hid nHBQ
      have HBZ := Lib.hid nHBZ
      have HB := Lib.hid nHB
      have HRJ := Lib.hid nHRJ
      have HX1 := Lib.hid nHX1
      have HX2 := Lib.hid nHX2
      have HSZ := Lib.hid nsz
      have hS0 : wd.cell? ⟨Qb, 0, none⟩ = some (.slice (some ⟨G, 0, none⟩) cs.length cG) ∧ wd.cell? ⟨B, 4, none⟩ = some (.slice (some ad) (cs.length + 1) cL) ∧ wd.cell? (ad.add j) = some (.slice Ai (rd_L4 (cs ++ [inp]) (j : Int)).length ci) := ⟨nHBQ.c0, nHX1, nHX2⟩
      have HS0 := Lib.hid hS0
      clear nHRG nHBQ nHBZ nHB nHRJ nHX1 nHX2 nsz hS0
      refine start_ (n := 14) (S := fun w' => w'.cell? ⟨Qb, 0, none⟩ = some (.slice (some ⟨G, 0, none⟩) cs.length cG) ∧ w'.cell? ⟨B, 4, none⟩ = some (.slice (some ad) (cs.length + 1) cL) ∧ w'.cell? (ad.add j) = some (.slice Ai (rd_L4 (cs ++ [inp]) (j : Int)).length ci)) (ds := [13]) #[false, false, false, false, false, false, false, false, false, false, false, false, false, false] (by kernel_rfl) rfl rfl (by rw [← hwd]; exact HS0.out) (fun hHeld => ?_); refine with_tabW tab49_7 bits49_7 (fun HT_ HW_ => ?_)
      rw [← hwd] at hHeld ⊢; clear hwd
      refine pure_ (i := 0) (N := some 21) (v := ?_) (a' := ?_) #[true, false, false, false, false, false, false, false, false, false, false, false, false, false] rfl rfl (any_of HT_.out (by kernel_rfl)) (fun _ _ _ h => h) (Or.inl ⟨by rfl, ?_⟩) ?_ ?_
      rotate_left
      · intro w'
        go_simp
        with_reducible rfl
      rotate_left
      · simp only [Act.put, List.setIfInBounds_toArray, List.set_cons_zero, List.set_cons_succ, i64_w, i32_w]
        rfl
      refine take_ (i := 1) (N := some 22) (v := ?_) (a' := ?_) #[true, true, false, false, false, false, false, false, false, false, false, false, false, false] rfl rfl (take_ofW HT_.out HW_.out (by kernel_rfl)) (fun _ _ _ h => h) (Or.inl ⟨by rfl, ?_⟩) hHeld ?_ ?_
      rotate_left
      · rintro w' ⟨s0, s1, s2⟩
        go_simp
        with_reducible rfl
      rotate_left
      · simp only [Act.put, List.setIfInBounds_toArray, List.set_cons_zero, List.set_cons_succ, i64_w, i32_w]
        rfl
      refine pure_ (i := 2) (N := some 23) (v := ?_) (a' := ?_) #[true, true, true, false, false, false, false, false, false, false, false, false, false, false] rfl rfl (any_of HT_.out (by kernel_rfl)) (fun _ _ _ h => h) (Or.inl ⟨by rfl, ?_⟩) ?_ ?_
      rotate_left
      · intro w'
        go_simp
        with_reducible rfl
      rotate_left
      · simp only [Act.put, List.setIfInBounds_toArray, List.set_cons_zero, List.set_cons_succ, i64_w, i32_w]
        rfl
      refine pure_ (i := 4) (N := some 25) (v := ?_) (a' := ?_) #[true, true, true, false, true, false, false, false, false, false, false, false, false, false] rfl rfl (any_of HT_.out (by kernel_rfl)) (fun _ _ _ h => h) (Or.inl ⟨by rfl, ?_⟩) ?_ ?_
      rotate_left
      · intro w'
        go_simp
        with_reducible rfl
      rotate_left
      · simp only [Act.put, List.setIfInBounds_toArray, List.set_cons_zero, List.set_cons_succ, i64_w, i32_w]
        rfl
      refine pure_ (i := 5) (N := some 26) (v := ?_) (a' := ?_) #[true, true, true, false, true, true, false, false, false, false, false, false, false, false] rfl rfl (any_of HT_.out (by kernel_rfl)) (fun _ _ _ h => h) (Or.inl ⟨by rfl, ?_⟩) ?_ ?_
      rotate_left
      · intro w'
        go_simp
        with_reducible rfl
      rotate_left
      · simp only [Act.put, List.setIfInBounds_toArray, List.set_cons_zero, List.set_cons_succ, i64_w, i32_w]
        rfl
      refine pure_ (i := 6) (N := some 27) (v := ?_) (a' := ?_) #[true, true, true, false, true, true, true, false, false, false, false, false, false, false] rfl rfl (any_of HT_.out (by kernel_rfl)) (fun _ _ _ h => h) (Or.inl ⟨by rfl, ?_⟩) ?_ ?_
      rotate_left
      · intro w'
        go_simp
        with_reducible rfl
      rotate_left
      · simp only [Act.put, List.setIfInBounds_toArray, List.set_cons_zero, List.set_cons_succ, i64_w, i32_w]
        rfl
      refine take_ (i := 7) (N := some 28) (v := ?_) (a' := ?_) #[true, true, true, false, true, true, true, true, false, false, false, false, false, false] rfl rfl (take_ofW HT_.out HW_.out (by kernel_rfl)) (fun _ _ _ h => h) (Or.inl ⟨by rfl, ?_⟩) hHeld ?_ ?_
      rotate_left
      · rintro w' ⟨s0, s1, s2⟩
        go_simp
        with_reducible rfl
      rotate_left
      · simp only [Act.put, List.setIfInBounds_toArray, List.set_cons_zero, List.set_cons_succ, i64_w, i32_w]
        rfl
      refine pure_ (i := 8) (N := some 29) (v := ?_) (a' := ?_) #[true, true, true, false, true, true, true, true, true, false, false, false, false, false] rfl rfl (any_of HT_.out (by kernel_rfl)) (fun _ _ _ h => h) (Or.inl ⟨by rfl, ?_⟩) ?_ ?_
      rotate_left
      · intro w'
        go_simp
        with_reducible rfl
      rotate_left
      · simp only [Act.put, List.setIfInBounds_toArray, List.set_cons_zero, List.set_cons_succ, i64_w, i32_w]
        rfl
      refine pure_ (i := 9) (N := some 30) (v := ?_) (a' := ?_) #[true, true, true, false, true, true, true, true, true, true, false, false, false, false] rfl rfl (any_of HT_.out (by kernel_rfl)) (fun _ _ _ h => h) (Or.inl ⟨by rfl, ?_⟩) ?_ ?_
      rotate_left
      · intro w'
        go_simp
        with_reducible rfl
      rotate_left
      · simp only [Act.put, List.setIfInBounds_toArray, List.set_cons_zero, List.set_cons_succ, i64_w, i32_w]
        rfl
      refine take_ (i := 10) (N := some 31) (v := ?_) (a' := ?_) #[true, true, true, false, true, true, true, true, true, true, true, false, false, false] rfl rfl (take_ofW HT_.out HW_.out (by kernel_rfl)) (fun _ _ _ h => h) (Or.inl ⟨by rfl, ?_⟩) hHeld ?_ ?_
      rotate_left
      · rintro w' ⟨s0, s1, s2⟩
        go_simp
        with_reducible rfl
      rotate_left
      · simp only [Act.put, List.setIfInBounds_toArray, List.set_cons_zero, List.set_cons_succ, i64_w, i32_w]
        rfl
      refine one_ (i := 3) (N := some 24) #[true, true, true, true, true, true, true, true, true, true, true, false, false, false] rfl rfl (one_of HT_.out (by kernel_rfl)) (by decide) (fun K hK => ?_)
      refine value_ (w1 := ?_) (v := ?_) (by rfl) rfl ?_ ?_
      rotate_left 2
      · go_simp
        constructor
        · rfl
        · rfl
      refine hK.out _ _ ⟨(HBQ.out.alloc _).c0, (World.cell?_alloc_lt _ _ _ (World.block_lt_of_cell? _ _ hHeld.2.1)).trans hHeld.2.1, (World.cell?_alloc_lt _ _ _ (World.block_lt_of_cell? _ _ hHeld.2.2)).trans hHeld.2.2⟩ (fun hHeld => ?_)
      clear hK K
      refine norm_ (a' := ?_) ?_ ?_
      rotate_left
      · show Act.put _ (some 24) _ = _
        simp only [Act.put, List.setIfInBounds_toArray, List.set_cons_zero, List.set_cons_succ, i64_w, i32_w]
        rfl
      refine one_ (i := 11) (N := some 32) #[true, true, true, true, true, true, true, true, true, true, true, true, false, false] rfl rfl (one_of HT_.out (by kernel_rfl)) (by decide) (fun K hK => ?_)
      refine Kd.R_append_rows_step (Kd.int .i64) (w0 := wd) wd.heap.size (by rfl) (.tmp 24) (.tmp 31) 33 3 (.int .i64 0) 8 rfl Try.underlying33 info3 rfl (by decide) (by omega) (.slice (some ⟨wd.heap.size, 0, none⟩) 0 0) ([] : List Int) (rd_L4 (cs ++ [inp]) (j : Int)) Ai (rd_L4 (cs ++ [inp]) (j : Int)).length ci (fun _ => True) (fun _ => False) rfl rfl (Kd.R_of_own (own_lit wd wd.heap.size 3 .i64 [] (Nat.le_refl _) (by simp)) (fun _ _ => trivial)) (Kd.C_alloc HRJ.out _) (fun _ _ h => h) (fun _ h => h.elim) (fun _ _ => trivial) (below_alloc (Below.refl _ _) _) (by simp) (by have := HRL.out (j : Int); simp only [List.length_nil]; omega) ?_
      intro v2 w2 ho2 hb2 hg2 hat2
      have hbw2 : Below wd.heap.size wd w2 := hb2
      refine hK.out _ _ ⟨(HBQ.out.below hb2 HBQ.out.lt).c0, (hb2.cell (World.block_lt_of_cell? _ _ HX1.out)).trans HX1.out, (hb2.cell (World.block_lt_of_cell? _ _ HX2.out)).trans HX2.out⟩ (fun hHeld => ?_)
      have nHRG : Kd.R (Kd.slice 3 (Kd.int .i64)) 33 w2 M0 (fun k => some k ≠ v2.ownBlock) (.slice (some ⟨G, 0, none⟩) cs.length cG) (cs.take j ++ List.replicate (cs.length - j) []) := Kd.R_mono (Kd.R_elder' HRG.out (Kd.R_base ho2) hb2) (fun _ hk => hk.2)
      have nHBQ := HBQ.out.below hb2 HBQ.out.lt
      have nHBZ := HBZ.out.below hb2 HBZ.out.lt
      have nHB := HB.out.trans (hb2.mono HB.out.size)
      have nHO : Kd.R (Kd.int .i64) 3 w2 M0 (fun _ => True) v2 (rd_L4 (cs ++ [inp]) (j : Int)) := Kd.R_lower (by simpa using ho2) HSZ.out
      clear HRG HBQ HBZ HB
      have HRG := Lib.hid nHRG
      have HBQ := Lib.hid nHBQ
      have HBZ := Lib.hid nHBZ
      have HB := Lib.hid nHB
      have HO := Lib.hid nHO
      clear nHRG nHBQ nHBZ nHB nHO ho2 hb2 hg2 hat2 hbw2
      clear hK K
      refine norm_ (a' := ?_) ?_ ?_
      rotate_left
      · show Act.put _ (some 32) _ = _
        simp only [Act.put, List.setIfInBounds_toArray, List.set_cons_zero, List.set_cons_succ, i64_w, i32_w]
        rfl
      refine pure_ (i := 12) (N := some 33) (v := ?_) (a' := ?_) #[true, true, true, true, true, true, true, true, true, true, true, true, true, false] rfl rfl (any_of HT_.out (by kernel_rfl)) (fun _ _ _ h => h) (Or.inl ⟨by rfl, ?_⟩) ?_ ?_
      rotate_left
      · intro w'
        go_simp
        with_reducible rfl
      rotate_left
      · simp only [Act.put, List.setIfInBounds_toArray, List.set_cons_zero, List.set_cons_succ, i64_w, i32_w]
        rfl
      refine last_ (i := 13) (N := none) #[true, true, true, true, true, true, true, true, true, true, true, true, true, true] rfl rfl (one_of HT_.out (by kernel_rfl)) (by decide) (fun K hK => ?_)
      obtain ⟨cE, hcE, hME, hccE, _⟩ := Kd.R_elem HRG.out ([] : List Int) (j : Int) (by omega) (by omega)
      refine R_store_step (Kd.slice 3 (Kd.int .i64)) M0 (by rfl) rfl 33 (.tmp 33) (.tmp 32) rfl 33 (j : Int) (cs.take j ++ List.replicate (cs.length - j) []) (rd_L4 (cs ++ [inp]) (j : Int)) v2 (fun _ => True) (fun k => k ≠ G) (by first | rfl | (simp [Act.eval]; done)) rfl (by obtain ⟨A_, c_, e_⟩ := Kd.R_slice HO.out; subst e_; rfl) (by kernel_rfl) (by obtain ⟨A_, c_, e_⟩ := Kd.R_slice HO.out; subst e_; rfl) rfl (Kd.R_mono HRG.out (fun _ _ => trivial)) (by omega) (by omega) hcE hccE ⟨v2, rfl, Kd.R_mono (Kd.R_bound HO.out) (fun k hk => ?_)⟩ (fun k hk => ⟨trivial, hk⟩) ?_
      · rintro rfl
        obtain ⟨q_, hq_, c3_, hc3_⟩ := hk.2.2.2
        obtain ⟨c33_, hc33_⟩ := own_typed (Kd.R_own HRG.out).choose_spec k (by simp [Value.ownBlock])
        rw [hc33_] at hc3_
        injection hc3_ with hc3_
        injection hc3_ with _ h2_
        subst h2_
        revert hq_
        decide
      intro w4 hw4 hrow4 hg4
      clear hw4
      refine hK.out _ _ ?_
      clear hK K
      refine done_ (done_of HT_.out (by kernel_rfl)) ?_
      rw [Int.toNat_natCast, take_put hj] at hrow4
      try go_wp2
      go_roundg (cs.length - (j + 1))
      case measure => omega
      case rel => exact ⟨j + 1, by omega, by go_num, ⟨hrow4⟩, ⟨HBQ.out.kept hg4 (boxA_ne HRG.out HBQ.out (by decide))⟩, ⟨HBZ.out.kept hg4 (boxA_ne HRG.out HBZ.out (by decide))⟩, ⟨HB.out.grown hg4 HB.out.size (fun k hk => by injection hk with hk; have := HGM.out; have := HM0.out; omega)⟩⟩
    · have hi1 : decide ((j : Int) < (cs.length : Int)) = false := decide_eq_false (by omega)
      have hid : decide (j < cs.length) = false := decide_eq_false hj
      have hjn : j = cs.length := by omega
      obtain ⟨ad, Ai, ci, hA, hxc, hxl, hxr⟩ := at_L4 (Kd.C_below HR.out HB.out) (cs.length : Int) (by omega) (by omega)
      rw [rd_L4_last] at hxc hxl hxr
      have hil : inp.length ≤ 5000 := by have := HRL.out (cs.length : Int); rwa [rd_L4_last] at this
      subst hA
      simp only [Int.toNat_natCast] at hxc
      have hrg : Kd.R (Kd.slice 3 (Kd.int .i64)) 33 wr M0 (fun _ => True) (.slice (some ⟨G, 0, none⟩) cs.length cG) cs := by
        have h1 := HRG.out
        rw [hjn] at h1
        simpa using h1
      have HRJ := Lib.hid hxr
      have HXL := Lib.hid hxl
      have HG2 := Lib.hid hrg
      have HJN := Lib.hid hjn
      clear hxr hxl hrg HRG hjn hjk
      have hx1 := (World.cell?_alloc_lt wr (.cells #[] 3) _ (World.block_lt_of_cell? _ _ hf1)).trans hf1
      have hx2 := (World.cell?_alloc_lt wr (.cells #[] 3) _ (World.block_lt_of_cell? _ _ hxc)).trans hxc
      have p1 : (0 ≤ (cs.length : Int)) = True := eq_true (by omega)
      have p2 : ((cs.length : Int) < (cs.length : Int) + 1) = True := eq_true (by omega)
      have p3 : (cs.length < cs.length + 1) = True := eq_true (by omega)
      have HF1 := Lib.hid hf1
      have HXC := Lib.hid hxc
      clear hf1 hxc
      go_wp2_with ((with_reducible refine gate_builtin (b := .append) (xs := #[.tmp 35, .tmp 42]) rfl ?_); at_builtin; refine Kd.R_append_rows (Kd.int .i64) (w0 := wr) wr.heap.size rfl (.tmp 35) (.tmp 42) 33 3 (.int .i64 0) 8 rfl Try.underlying33 info3 rfl (by decide) (by omega) (.slice (some ⟨wr.heap.size, 0, none⟩) 0 0) ([] : List Int) inp Ai inp.length ci (fun _ => True) (fun _ => False) rfl rfl (Kd.R_of_own (own_lit wr wr.heap.size 3 .i64 [] (Nat.le_refl _) (by simp)) (fun _ _ => trivial)) (Kd.C_alloc HRJ.out _) (fun _ _ h => h) (fun _ h => h.elim) (fun _ _ => trivial) (below_alloc (Below.refl _ _) _) (by simp) (by simp only [List.length_nil]; omega) ?_; intro v2 w2 ho2 hb2 hg2 hat2; have hq2 := HBQ.out.below hb2 HBQ.out.lt; have hz2 := HBZ.out.below hb2 HBZ.out.lt; have q0 := hq2.c0; have q1 := hq2.c1; have q2 := hq2.c2; have qf1 := hq2.f1; have z0 := hz2.c0; have z1 := hz2.c1; have z2 := hz2.c2; have zf0 := hz2.f0; have zf1 := hz2.f1; have zf2 := hz2.f2; have hzq : (w.heap.size = Qb) = False := eq_false (by rw [HQB.out]; omega); have hqz : (Qb = w.heap.size) = False := eq_false (by rw [HQB.out]; omega); obtain ⟨A2, c2, e2⟩ := Kd.R_slice ho2; subst e2; have H2 := Lib.hid ho2; have HQ2 := Lib.hid hq2; have HZ2 := Lib.hid hz2; have HB2 := Lib.hid hb2; clear ho2 hq2 hz2 hb2 hg2 hat2)
      have nq := (HQ2.out.set1 (.slice A2 inp.length c2))
      have nz := HZ2.out.far (p := ⟨Qb, 1, none⟩) (by show w.heap.size ≠ Qb; rw [HQB.out]; omega) (.slice A2 inp.length c2)
      have nz1 := nz.set0 (.slice (some ⟨G, 0, none⟩) cs.length cG)
      have nz2 := nz1.set1 (.slice A2 inp.length c2)
      have nz3 := nz2.set2 nil3
      have hsb : w.heap.size ≤ wr.heap.size := HB.out.size
      have hi2 : Kd.R (Kd.int .i64) 3 w2 w.heap.size (fun _ => True) (.slice A2 inp.length c2) inp := Kd.R_lower (by simpa using H2.out) hsb
      have hg2 : Kd.R (Kd.slice 3 (Kd.int .i64)) 33 w2 w.heap.size (fun _ => True) (.slice (some ⟨G, 0, none⟩) cs.length cG) cs := Kd.R_lower (Kd.R_below HG2.out HB2.out) (by rw [HM0.out]; exact Nat.le_refl _)
      have hbb := HB.out.trans (HB2.out.mono hsb)
      refine bodyPost_ret (results_cell_row rfl _ _ w.heap.size 35 #[.slice (some ⟨G, 0, none⟩) cs.length cG, .slice A2 inp.length c2, nil3] (0, 0) _ rfl nz3 Try.underlying35 rfl (by kernel_rfl)) rfl ?_
      exact ⟨_, _, rfl, R_setA (R_setA (R_setA (R_setA hg2 HQ2.out) nz) nz1) nz2, R_setI (R_setI (R_setI (R_setI hi2 HQ2.out) nz) nz1) nz2, (((hbb.setCell (p := ⟨Qb, 1, none⟩) (by show w.heap.size ≤ Qb; rw [HQB.out]; omega) _).setCell (p := ⟨w.heap.size, 0, none⟩) (Nat.le_refl _) _).setCell (p := ⟨w.heap.size, 1, none⟩) (Nat.le_refl _) _).setCell (p := ⟨w.heap.size, 2, none⟩) (Nat.le_refl _) _⟩
end Go.Proofs.Ytgcdeablfoomhaa.PAll
end
section
set_option linter.unusedVariables false
set_option linter.unusedSimpArgs false
namespace Go.Proofs.Ytgcdeablfoomhaa.PAll
open Go.RowKit Go.Proofs.YtgcdeablfoomhaaW.PrintWords Go.Proofs.YtgcdeablfoomhaaW.PrintLast Go.Proofs.YtgcdeablfoomhaaW.PrintMore
/-- A list's bounds. -/
structure S62 where
  f0 : Int
  f1 : Int
def unrank (r : Int) : Int := if r % 2 = 1 then (r + 1) / 2 else -(r / 2)
theorem unrank_f {r : Int} (h : 0 ≤ r) (h2 : r ≤ 1099511627776) : enumerate_Unrank.f r = some (unrank r) := by
  unfold enumerate_Unrank.f unrank
  rw [if_neg (by omega), Int.tmod_eq_emod_of_nonneg h]
  split
  · rw [wrap64_of' (n := r + 1) (by omega) (by omega), Int.tdiv_eq_ediv_of_nonneg (by omega), wrap64_of' (by omega) (by omega)]
  · have e : r = 2 * (r / 2) := by omega
    rw [wrap64_of' (n := -r) (by omega) (by omega)]
    have : Int.tdiv (-r) 2 = -(r / 2) := by rw [Int.neg_tdiv, Int.tdiv_eq_ediv_of_nonneg h]
    rw [this, wrap64_of' (by omega) (by omega)]
/-- The numbers from a to b. -/
def irange (a b : Int) : List Int := (List.range (b + 1 - a).toNat).map fun j : Nat => a + (j : Int)
def elemO (rk lo hi : Int) (K : Int → List (List (List Int))) : Nat → Int → List (List Int × List (List Int))
  | 0, w => if w < lo ∨ w > hi then [] else (K w).map fun q => (([] : List Int), q)
  | n + 1, w => (irange (max 0 (w - 1 - ((n : Int) * (rk + 1) + hi))) (min rk (w - 1 - ((n : Int) + lo)))).flatMap fun r => (elemO rk lo hi K n (w - 1 - r)).map fun q => (unrank r :: q.1, q.2)
def lowOf : List S62 → Int
  | [] => 0
  | s :: r => lowOf r + s.f0
def highOf (rk : Int) : List S62 → Int
  | [] => 0
  | s :: r => highOf rk r + s.f1 * (rk + 1)
def slotO (rk : Int) : List S62 → Int → List (List (List Int))
  | [], _ => [[]]
  | s :: r, w => (irange s.f0 s.f1).flatMap fun m => (elemO rk (lowOf r) (highOf rk r) (slotO rk r) m.toNat w).map fun q => q.1 :: q.2
/-- Where the search lies. -/
structure Cx where
  sl : List S62
  rk : Int
  B : Nat
  gS : Nat
  gl : Nat
  gh : Nat
  L : Nat
  M0 : Nat
  l : Nat
  cS : Nat
  cl : Nat
  ch : Nat
structure Cx.Ok (C : Cx) : Prop where
  n0 : 1 ≤ C.sl.length
  n1 : C.sl.length ≤ 200
  r0 : 0 ≤ C.rk
  r1 : C.rk ≤ 2000
  s : ∀ s ∈ C.sl, 0 ≤ s.f0 ∧ s.f0 ≤ 1000 ∧ 0 ≤ s.f1 ∧ s.f1 ≤ 1000
  lo : ∀ j, 0 ≤ lowOf (C.sl.drop j) ∧ lowOf (C.sl.drop j) ≤ 1099511627776
  hi : ∀ j, 0 ≤ highOf C.rk (C.sl.drop j) ∧ highOf C.rk (C.sl.drop j) ≤ 1099511627776
  nB : C.B ≠ C.L
  nS : C.gS ≠ C.L
  nl : C.gl ≠ C.L
  nh : C.gh ≠ C.L
  mB : C.B < C.M0
  mS : C.gS < C.M0
  ml : C.gl < C.M0
  mh : C.gh < C.M0
  mL : C.L < C.M0
/-- What the search reads and never writes. -/
structure Cst (C : Cx) (W : World) : Prop where
  b : W.heap[C.B]? = some (.cells #[.slice (some ⟨C.gS, 0, none⟩) C.sl.length C.cS, .int .i64 C.rk, .slice (some ⟨C.gl, 0, none⟩) (C.sl.length + 1) C.cl, .slice (some ⟨C.gh, 0, none⟩) (C.sl.length + 1) C.ch, .slice (some ⟨C.L, 0, none⟩) C.sl.length C.sl.length, .func (.yield C.l) #[] #[]] 60 (0, 0))
  s : ∃ cells : Array Value, W.heap[C.gS]? = some (.cells cells 62 (0, 0)) ∧ ∀ i (h : i < C.sl.length), cells[i * 2]? = some (.int .i64 C.sl[i].f0) ∧ cells[i * 2 + 1]? = some (.int .i64 C.sl[i].f1)
  lo : ∃ cells : Array Value, W.heap[C.gl]? = some (.cells cells 3 (0, 0)) ∧ ∀ j, j ≤ C.sl.length → cells[j]? = some (.int .i64 (lowOf (C.sl.drop j)))
  hi : ∃ cells : Array Value, W.heap[C.gh]? = some (.cells cells 3 (0, 0)) ∧ ∀ j, j ≤ C.sl.length → cells[j]? = some (.int .i64 (highOf C.rk (C.sl.drop j)))
theorem Cst.move {C : Cx} {W W' : World} (h : Cst C W) (hB : W'.heap[C.B]? = W.heap[C.B]?) (hS : W'.heap[C.gS]? = W.heap[C.gS]?) (hl : W'.heap[C.gl]? = W.heap[C.gl]?) (hh : W'.heap[C.gh]? = W.heap[C.gh]?) : Cst C W' :=
  ⟨hB.trans h.b, by rw [hS]; exact h.s, by rw [hl]; exact h.lo, by rw [hh]; exact h.hi⟩
theorem Cst.cell {C : Cx} {W : World} (h : Cst C W) : W.cell? ⟨C.B, 0, none⟩ = some (.slice (some ⟨C.gS, 0, none⟩) C.sl.length C.cS) ∧ W.cell? ⟨C.B, 1, none⟩ = some (.int .i64 C.rk) ∧ W.cell? ⟨C.B, 2, none⟩ = some (.slice (some ⟨C.gl, 0, none⟩) (C.sl.length + 1) C.cl) ∧
    W.cell? ⟨C.B, 3, none⟩ = some (.slice (some ⟨C.gh, 0, none⟩) (C.sl.length + 1) C.ch) ∧ W.cell? ⟨C.B, 4, none⟩ = some (.slice (some ⟨C.L, 0, none⟩) C.sl.length C.sl.length) ∧ W.cell? ⟨C.B, 5, none⟩ = some (.func (.yield C.l) #[] #[]) := by
  have hb := h.b
  refine ⟨?_, ?_, ?_, ?_, ?_, ?_⟩ <;> simp [World.cell?, hb]
theorem addr0 (g n : Nat) : Addr.add ⟨g, 0, none⟩ n = ⟨g, n, none⟩ := by
  unfold Addr.add; split <;> simp_all
theorem Cst.lo_ {C : Cx} {W : World} (h : Cst C W) (j : Nat) (hj : j ≤ C.sl.length) : W.cell? ⟨C.gl, j, none⟩ = some (.int .i64 (lowOf (C.sl.drop j))) := by
  obtain ⟨cells, hc, hx⟩ := h.lo
  simp [World.cell?, hc, hx j hj]
theorem Cst.hi_ {C : Cx} {W : World} (h : Cst C W) (j : Nat) (hj : j ≤ C.sl.length) : W.cell? ⟨C.gh, j, none⟩ = some (.int .i64 (highOf C.rk (C.sl.drop j))) := by
  obtain ⟨cells, hc, hx⟩ := h.hi
  simp [World.cell?, hc, hx j hj]
theorem Cst.s_ {C : Cx} {W : World} (h : Cst C W) (i : Nat) (hi : i < C.sl.length) : W.cell? ⟨C.gS, i * 2, none⟩ = some (.int .i64 C.sl[i].f0) ∧ W.cell? ⟨C.gS, i * 2 + 1, none⟩ = some (.int .i64 C.sl[i].f1) := by
  obtain ⟨cells, hc, hx⟩ := h.s
  simp [World.cell?, hc, hx i hi]
/-- The search's memory: its constants, and a row for each list, in blocks of T, apart from each other. -/
structure Inv (C : Cx) (T : Nat → Prop) (W : World) (rows : List (List Int)) : Prop where
  c : Cst C W
  t : T C.B ∧ T C.gS ∧ T C.gl ∧ T C.gh ∧ T C.L
  tlt : ∀ k, T k → k < W.heap.size
  m : C.M0 ≤ W.heap.size
  n : rows.length = C.sl.length
  r : ∃ vs : List Value, vs.length = C.sl.length ∧ W.heap[C.L]? = some (.cells vs.toArray 33 (0, 0)) ∧ (∀ i : Nat, Kd.R (Kd.int .i64) 3 W C.M0 T (vs.getD i nil3) (rows.getD i [])) ∧
    ∀ (i j b : Nat), i ≠ j → (vs.getD i nil3).ownBlock = some b → (vs.getD j nil3).ownBlock ≠ some b
section
variable {C : Cx} {T : Nat → Prop} {W W' : World} {rows : List (List Int)}
theorem Inv.keep (h : Inv C T W rows) (hs : W.heap.size ≤ W'.heap.size) (hk : ∀ k, T k → W'.heap[k]? = W.heap[k]?) : Inv C T W' rows := by
  obtain ⟨hB, hS, hl, hh, hL⟩ := h.t
  obtain ⟨vs, h1, h2, h3, h4⟩ := h.r
  exact ⟨h.c.move (hk _ hB) (hk _ hS) (hk _ hl) (hk _ hh), h.t, fun k hkk => Nat.lt_of_lt_of_le (h.tlt k hkk) hs, Nat.le_trans h.m hs, h.n, vs, h1, (hk _ hL).trans h2, fun i => Kd.R_step (h3 i) (fun k hk1 _ => hk k hk1), h4⟩
theorem Inv.below (h : Inv C T W rows) (hb : Below W.heap.size W W') : Inv C T W' rows := h.keep hb.size fun k hk => hb.block k (h.tlt k hk)
theorem Inv.keepS (h : Inv C T W rows) (hb : KeepS T W W') : Inv C T W' rows := h.keep hb.1 hb.2
theorem getD_set_same {α : Type} (l : List α) (i : Nat) (x d : α) (h : i < l.length) : (l.set i x).getD i d = x := by
  simp [List.getD_eq_getElem?_getD, h]
theorem getD_set_other {α : Type} (l : List α) (i j : Nat) (x d : α) (h : i ≠ j) : (l.set i x).getD j d = l.getD j d := by
  simp [List.getD_eq_getElem?_getD, List.getElem?_set_ne h]
theorem cell_list {W : World} {g : Nat} {vs : List Value} {t : TypeId} (h : W.heap[g]? = some (.cells vs.toArray t (0, 0))) (i : Nat) (hi : i < vs.length) : W.cell? ⟨g, i, none⟩ = some (vs.getD i nil3) := by
  simp [World.cell?, h, hi, List.getD_eq_getElem?_getD]
/-- Row i. -/
theorem Inv.row (h : Inv C T W rows) (i : Nat) (hi : i < C.sl.length) : ∃ Ai ci, W.cell? ⟨C.L, i, none⟩ = some (.slice Ai (rows.getD i []).length ci) ∧ Kd.R (Kd.int .i64) 3 W C.M0 T (.slice Ai (rows.getD i []).length ci) (rows.getD i []) := by
  obtain ⟨vs, h1, h2, h3, h4⟩ := h.r
  obtain ⟨Ai, ci, e⟩ := Kd.R_slice (h3 i)
  have h5 := cell_list h2 i (by omega)
  have h6 := h3 i
  rw [e] at h5 h6
  exact ⟨Ai, ci, h5, h6⟩
theorem Inv.frozen (h : Inv C T W rows) (i : Nat) : W.frozen? ⟨C.L, i, none⟩ = false := by
  obtain ⟨vs, h1, h2, h3, h4⟩ := h.r
  simp [World.frozen?, h2]
theorem heap_set_list {W : World} {g i : Nat} {vs : List Value} {t : TypeId} (u : Value) (h : W.heap[g]? = some (.cells vs.toArray t (0, 0))) : (W.setCell ⟨g, i, none⟩ u).heap[g]? = some (.cells (vs.set i u).toArray t (0, 0)) := by
  have := heap_setCell_same W g i vs.toArray t u h
  simpa using this
/-- The row block of another list is not this one; nor is the lists' own. -/
theorem Inv.notL (h : Inv C T W rows) (hC : C.Ok) {v : Value} {xs : List Int} {ok : Nat → Prop} (hv : Kd.R (Kd.int .i64) 3 W C.M0 ok v xs) (u : Value) (j : Nat) : Kd.R (Kd.int .i64) 3 (W.setCell ⟨C.L, j, none⟩ u) C.M0 ok v xs :=
  Kd.R_mono (Kd.R_far (Kd.R_mono (Kd.R_bound hv) (ok' := fun k => ok k ∧ k ≠ C.L) (fun k hk => ⟨hk.1, by have := hC.mL; have := hk.2.1; omega⟩)) (fun k hk => hk.2) u) (fun _ hk => hk.1)
/-- A list's row is put anew: a row of T's, apart from the others. -/
theorem Inv.put (h : Inv C T W rows) (hC : C.Ok) (i : Nat) (hi : i < C.sl.length) (v : Value) (x : List Int) (hv : Kd.R (Kd.int .i64) 3 W C.M0 T v x)
    (hap : ∀ vs : List Value, W.heap[C.L]? = some (.cells vs.toArray 33 (0, 0)) → (∀ (i j b : Nat), i ≠ j → (vs.getD i nil3).ownBlock = some b → (vs.getD j nil3).ownBlock ≠ some b) → (∀ j : Nat, Kd.R (Kd.int .i64) 3 W C.M0 T (vs.getD j nil3) (rows.getD j [])) → ∀ (j b : Nat), j ≠ i → v.ownBlock = some b → (vs.getD j nil3).ownBlock ≠ some b) :
    Inv C T (W.setCell ⟨C.L, i, none⟩ v) (rows.set i x) := by
  obtain ⟨vs, h1, h2, h3, h4⟩ := h.r
  have ha := hap vs h2 h4 h3
  have hf : ∀ k, k ≠ C.L → (W.setCell ⟨C.L, i, none⟩ v).heap[k]? = W.heap[k]? := fun k hk => heap_setCell_other W ⟨C.L, i, none⟩ k v hk
  refine ⟨h.c.move (hf _ hC.nB) (hf _ hC.nS) (hf _ hC.nl) (hf _ hC.nh), h.t, fun k hk => by simpa using h.tlt k hk, by simpa using h.m, by simpa using h.n, vs.set i v, by simpa using h1, heap_set_list v h2, fun j => ?_, fun j k b hjk hb => ?_⟩
  · by_cases e : i = j
    · subst e
      rw [getD_set_same _ _ _ _ (by omega), getD_set_same _ _ _ _ (by rw [h.n]; exact hi)]
      exact h.notL hC hv v i
    · rw [getD_set_other _ _ _ _ _ e, getD_set_other _ _ _ _ _ e]
      exact h.notL hC (h3 j) v i
  · by_cases e : i = j
    · subst e
      rw [getD_set_same _ _ _ _ (by omega)] at hb
      rw [getD_set_other _ _ _ _ _ hjk]
      exact ha k b (Ne.symm hjk) hb
    · rw [getD_set_other _ _ _ _ _ e] at hb
      by_cases e2 : i = k
      · subst e2
        rw [getD_set_same _ _ _ _ (by omega)]
        intro hvb
        exact ha j b (Ne.symm e) hvb hb
      · rw [getD_set_other _ _ _ _ _ e2]
        exact h4 j k b hjk hb
/-- lists[i] = lists[i][:m]. -/
theorem Inv.cut (h : Inv C T W rows) (hC : C.Ok) (i : Nat) (hi : i < C.sl.length) {Ai : Option Addr} {ci : Nat} (hc : W.cell? ⟨C.L, i, none⟩ = some (.slice Ai (rows.getD i []).length ci)) (m : Nat) (hm : m ≤ (rows.getD i []).length) :
    Inv C T (W.setCell ⟨C.L, i, none⟩ (.slice Ai m ci)) (rows.set i ((rows.getD i []).take m)) := by
  obtain ⟨vs, h1, h2, h3, h4⟩ := h.r
  have h5 := cell_list h2 i (by omega)
  rw [hc] at h5
  have h6 := h3 i
  have h7 := Option.some.inj h5
  rw [← h7] at h6
  refine h.put hC i hi _ _ (Kd.R_take h6 hm) (fun vs' h2' h4' h3' j b hj hb => ?_)
  have h8 := cell_list h2' i (by rw [h2] at h2'; injection h2' with h2'; injection h2' with h9; have h10 := congrArg Array.toList h9; simp at h10; rw [← h10]; omega)
  rw [hc] at h8
  have h9 := Option.some.inj h8
  refine h4' i j b (Ne.symm hj) ?_
  rw [← h9]
  cases Ai with
  | none => simp [Value.ownBlock] at hb
  | some a => simpa [Value.ownBlock] using hb
/-- lists[i] = append(lists[i], x). -/
theorem Inv.app (h : Inv C T W rows) (hC : C.Ok) (i : Nat) (hi : i < C.sl.length) {Ai : Option Addr} {ci : Nat} (hc : W.cell? ⟨C.L, i, none⟩ = some (.slice Ai (rows.getD i []).length ci)) {w2 : World} {v2 : Value} {x : Int}
    (hv : Kd.R (Kd.int .i64) 3 w2 C.M0 (fun k => T k ∨ W.heap.size ≤ k) v2 (rows.getD i [] ++ [x])) (hg : W.grownBy w2 (Value.slice Ai (rows.getD i []).length ci).ownBlock)
    (hat : v2.ownBlock = (Value.slice Ai (rows.getD i []).length ci).ownBlock ∨ ∃ b, v2.ownBlock = some b ∧ W.heap.size ≤ b) :
    Inv C (fun k => T k ∨ (W.heap.size ≤ k ∧ k < w2.heap.size)) (w2.setCell ⟨C.L, i, none⟩ v2) (rows.set i (rows.getD i [] ++ [x])) ∧ StepT T W (w2.setCell ⟨C.L, i, none⟩ v2) ∧ Grows T (fun k => T k ∨ (W.heap.size ≤ k ∧ k < w2.heap.size)) W := by
  obtain ⟨vs, h1, h2, h3, h4⟩ := h.r
  obtain ⟨hB, hS, hl, hh, hL⟩ := h.t
  have h5 := cell_list h2 i (by omega)
  rw [hc] at h5
  have h7 : Value.slice Ai (rows.getD i []).length ci = vs.getD i nil3 := Option.some.inj h5
  rw [h7] at hg hat
  have hbase : ∀ b, (vs.getD i nil3).ownBlock = some b → C.M0 ≤ b := Kd.R_base (h3 i)
  have hTi : ∀ b, (vs.getD i nil3).ownBlock = some b → T b := (h3 i).1
  have hf : ∀ k, k < C.M0 → w2.heap[k]? = W.heap[k]? := fun k hk => hg.block k (by have := h.m; omega) (fun e => by have := hbase k e.symm; omega)
  have hf2 : ∀ k, k < C.M0 → k ≠ C.L → (w2.setCell ⟨C.L, i, none⟩ v2).heap[k]? = W.heap[k]? := fun k hk hn => (heap_setCell_other w2 ⟨C.L, i, none⟩ k v2 hn).trans (hf k hk)
  have hL2 : w2.heap[C.L]? = some (.cells vs.toArray 33 (0, 0)) := (hf _ hC.mL).trans h2
  have hmo : ∀ j, i ≠ j → Kd.R (Kd.int .i64) 3 w2 C.M0 (fun k => T k ∨ (W.heap.size ≤ k ∧ k < w2.heap.size)) (vs.getD j nil3) (rows.getD j []) := fun j hj => by
    have q := h3 j
    obtain ⟨q0, inner, ho, hr⟩ := q
    exact ⟨fun k hk => .inl (q0 k hk), inner, own_move ho (fun k hk => hg.block k (own_lt ho k hk) (fun e => h4 j i k (Ne.symm hj) hk e.symm)), hr⟩
  have hvt : Kd.R (Kd.int .i64) 3 w2 C.M0 (fun k => T k ∨ (W.heap.size ≤ k ∧ k < w2.heap.size)) v2 (rows.getD i [] ++ [x]) := Kd.R_mono (Kd.R_bound hv) (fun k hk => hk.1.imp id (fun h9 => ⟨h9, hk.2.2.1⟩))
  have notL : ∀ {v : Value} {xs : List Int} {ok : Nat → Prop}, Kd.R (Kd.int .i64) 3 w2 C.M0 ok v xs → Kd.R (Kd.int .i64) 3 (w2.setCell ⟨C.L, i, none⟩ v2) C.M0 ok v xs := fun {v xs ok} hv =>
    Kd.R_mono (Kd.R_far (Kd.R_mono (Kd.R_bound hv) (ok' := fun k => ok k ∧ k ≠ C.L) (fun k hk => ⟨hk.1, by have := hC.mL; have := hk.2.1; omega⟩)) (fun k hk => hk.2) v2) (fun _ hk => hk.1)
  refine ⟨⟨h.c.move (hf2 _ hC.mB hC.nB) (hf2 _ hC.mS hC.nS) (hf2 _ hC.ml hC.nl) (hf2 _ hC.mh hC.nh), ⟨.inl hB, .inl hS, .inl hl, .inl hh, .inl hL⟩, fun k hk => ?_, by have := hg.size; have := h.m; simp; omega, by simpa using h.n, vs.set i v2, by simpa using h1, heap_set_list v2 hL2, fun j => ?_, fun j k b hjk hb => ?_⟩,
    ⟨hg.os, hg.tape, hg.output, by simpa using hg.size, fun k hk hn => (heap_setCell_other w2 ⟨C.L, i, none⟩ k v2 (fun e => hn (e ▸ hL))).trans (hg.block k hk (fun e => hn (hTi k e.symm)))⟩, fun k hk => .inl hk, fun k hk => hk.imp id (fun h9 => h9.1)⟩
  · rcases hk with hk | hk
    · have := h.tlt k hk; have := hg.size; simp; omega
    · simpa using hk.2
  · by_cases e : i = j
    · subst e
      rw [getD_set_same _ _ _ _ (by omega), getD_set_same _ _ _ _ (by rw [h.n]; exact hi)]
      exact notL hvt
    · rw [getD_set_other _ _ _ _ _ e, getD_set_other _ _ _ _ _ e]
      exact notL (hmo j e)
  · have hvi : ∀ (k b : Nat), k ≠ i → v2.ownBlock = some b → (vs.getD k nil3).ownBlock ≠ some b := fun k b hk hb hkb => by
      rcases hat with hat | ⟨b', hb', hlt⟩
      · rw [hat] at hb
        exact h4 k i b hk hkb hb
      · rw [hb] at hb'
        injection hb' with hb'
        have := Kd.R_lt (h3 k) b hkb
        omega
    by_cases e : i = j
    · subst e
      rw [getD_set_same _ _ _ _ (by omega)] at hb
      rw [getD_set_other _ _ _ _ _ hjk]
      exact hvi k b (Ne.symm hjk) hb
    · rw [getD_set_other _ _ _ _ _ e] at hb
      by_cases e2 : i = k
      · subst e2
        rw [getD_set_same _ _ _ _ (by omega)]
        intro hvb
        exact hvi j b (Ne.symm e) hvb hb
      · rw [getD_set_other _ _ _ _ _ e2]
        exact h4 j k b hjk hb
theorem Inv.stepCut (h : Inv C T W rows) (i : Nat) (u : Value) : StepT T W (W.setCell ⟨C.L, i, none⟩ u) := StepT.set W ⟨C.L, i, none⟩ u h.t.2.2.2.2
end
/-- How a search went: through to its end, or stopped behind output k. -/
def Res (J Jx : (Nat → Prop) → List (List (List Int)) → World → Prop) (done outs : List (List (List Int))) (b : Bool) (T : Nat → Prop) (W : World) : Prop :=
  (b = true ∧ J T (done ++ outs) W) ∨ (b = false ∧ ∃ k, k < outs.length ∧ Jx T (done ++ outs.take (k + 1)) W)
def SPost (C : Cx) (J Jx : (Nat → Prop) → List (List (List Int)) → World → Prop) (done outs : List (List (List Int))) (rows : List (List Int)) (e : Ending) (W' : World) : Prop :=
  ∃ b T', e = .returned (.bool b) ∧ Res J Jx done outs b T' W' ∧ Inv C T' W' rows
section
variable {J Jx : (Nat → Prop) → List (List (List Int)) → World → Prop} {done outs : List (List (List Int))} {b : Bool} {T T' : Nat → Prop} {W W' : World}
theorem Res.step (h : Res J Jx done outs b T W) (hJ : Abide J) (hJx : Abide Jx) (hs : StepT T W W') (hg : Grows T T' W) : Res J Jx done outs b T' W' := by
  rcases h with ⟨hb, h⟩ | ⟨hb, k, hk, h⟩
  · exact .inl ⟨hb, hJ _ _ _ _ _ h hs hg⟩
  · exact .inr ⟨hb, k, hk, hJx _ _ _ _ _ h hs hg⟩
theorem Res.end_ (h : J T done W) : Res J Jx done [] true T W := .inl ⟨rfl, by simpa using h⟩
/-- A part of the outputs went through: J holds behind it. -/
theorem Res.thru {more : List (List (List Int))} (h : Res J Jx (done ++ outs) more true T W) : J T (done ++ (outs ++ more)) W := by
  rcases h with ⟨_, h⟩ | ⟨hb, _⟩
  · rwa [List.append_assoc] at h
  · cases hb
theorem Res.stop {more rest : List (List (List Int))} (h : Res J Jx (done ++ outs) more false T W) : Res J Jx done (outs ++ (more ++ rest)) false T W := by
  rcases h with ⟨hb, _⟩ | ⟨_, k, hk, h⟩
  · cases hb
  · refine .inr ⟨rfl, outs.length + k, by simp; omega, ?_⟩
    rw [List.take_append, List.take_of_length_le (by omega), show outs.length + k + 1 - outs.length = k + 1 by omega, List.take_append_of_le_length (by omega), ← List.append_assoc]
    exact h
end
theorem irange_length (a b : Int) : (irange a b).length = (b + 1 - a).toNat := by simp [irange]
theorem irange_get (a b : Int) (j : Nat) (h : j < (irange a b).length) : (irange a b)[j] = a + (j : Int) := by simp [irange]
theorem flat_take {α : Type} (l : List Int) (f : Int → List α) (j : Nat) (h : j < l.length) : (l.take (j + 1)).flatMap f = (l.take j).flatMap f ++ f l[j] := by
  rw [List.take_succ_eq_append_getElem h, List.flatMap_append]; simp
theorem flat_all {α : Type} (l : List Int) (f : Int → List α) (j : Nat) (h : j < l.length) : l.flatMap f = (l.take j).flatMap f ++ (f l[j] ++ (l.drop (j + 1)).flatMap f) := by
  conv => lhs; rw [← List.take_append_drop j l, List.drop_eq_getElem_cons h]
  rw [List.flatMap_append, List.flatMap_cons]
/-- The contract of search.slot, and of search.element. -/
def SlotC (C : Cx) (J Jx : (Nat → Prop) → List (List (List Int)) → World → Prop) (rest : List S62) : Prop :=
  ∀ (pre : List (List Int)) (wt : Int) (T : Nat → Prop) (W : World) (done : List (List (List Int))), C.sl.drop pre.length = rest → pre.length + rest.length = C.sl.length → (∀ r ∈ pre, r.length ≤ 1000) → 0 ≤ wt → wt ≤ 1099511627776 →
    J T done W → Inv C T W (pre ++ List.replicate rest.length []) →
    Calls Try.prog 33 #[.pointer (some ⟨C.B, 0, none⟩), .int .i64 (pre.length : Int), .int .i64 wt] W fun e W' => SPost C J Jx done ((slotO C.rk rest wt).map fun q => pre ++ q) (pre ++ List.replicate rest.length []) e W'
def ElemC (C : Cx) (J Jx : (Nat → Prop) → List (List (List Int)) → World → Prop) (rest : List S62) (left : Nat) : Prop :=
  ∀ (pre : List (List Int)) (cur : List Int) (mI wt : Int) (T : Nat → Prop) (W : World) (done : List (List (List Int))), C.sl.drop (pre.length + 1) = rest → pre.length + 1 + rest.length = C.sl.length → (∀ r ∈ pre, r.length ≤ 1000) → cur.length + left ≤ 1000 → mI = (cur.length : Int) + (left : Int) → 0 ≤ wt → wt ≤ 1099511627776 →
    J T done W → Inv C T W (pre ++ cur :: List.replicate rest.length []) →
    Calls Try.prog 50 #[.pointer (some ⟨C.B, 0, none⟩), .int .i64 (pre.length : Int), .int .i64 mI, .int .i64 wt] W fun e W' =>
      SPost C J Jx done ((elemO C.rk (lowOf rest) (highOf C.rk rest) (slotO C.rk rest) left wt).map fun q => pre ++ (cur ++ q.1) :: q.2) (pre ++ cur :: List.replicate rest.length []) e W'
end Go.Proofs.Ytgcdeablfoomhaa.PAll
end
