-- LAID BY A PROGRAM (wip/tprint.py) out of the translation. Nothing here is trusted.
import Derived.Test.YtjphfhmkpknfaaaPAllx0
namespace Go.Proofs.Ytjphfhmkpknfaaa.PAll
open Go.RowKit Go.Proofs.YtjphfhmkpknfaaaW.PrintWords Go.Proofs.YtjphfhmkpknfaaaW.PrintLast Go.Proofs.YtjphfhmkpknfaaaW.PrintMore
attribute [local go_sem] max2_int min2_int max_two min_two max_three min_three max_four min_four   -- for this text's walks alone
set_option linter.unusedVariables false
set_option linter.unusedSimpArgs false

/-! ### backstepref10_Part: function 36 -/
def backstepref10_Part.l0 : Nat → List Int → Int → List (List Int) → List Int → List Int → Option (List Int)
  | 0, _, _, _, _, _ => none
  | k + 1, x5, x6, x368000, x368001, x368002 => if x6 ≥ 0 then (if 0 ≤ x6 then (if x6 < (x368001.length : Int) then (if x5.length < 17592186044416 then (backstepref10_Part.l0 k (x5 ++ [rd x368001 x6]) (wrap64 (x6 - 1)) x368000 x368001 x368002) else (none)) else (none)) else (none)) else (some x5)
def backstepref10_Part.f (k : Nat) (l0_0 : List (List Int)) (l0_1 : List Int) (l0_2 : List Int) (a1 : Int) : Option (List Int) := if a1 ≥ 0 then (if 0 ≤ a1 then (if a1 < (l0_0.length : Int) then (some (rd_L1 l0_0 a1)) else (none)) else (none)) else (if a1 = (-2) then (some l0_2) else (backstepref10_Part.l0 k ([] : List Int) (wrap64 ((l0_1.length : Int) - 1)) l0_0 l0_1 l0_2))
theorem backstepref10_Part.mono_l : ∀ k, (∀ y0 y1 y2 y3 y4, LeO (backstepref10_Part.l0 k y0 y1 y2 y3 y4) (backstepref10_Part.l0 (k + 1) y0 y1 y2 y3 y4))
  | 0 => fun _ _ _ _ _ r h => by simp [backstepref10_Part.l0] at h
  | k + 1 => by
    have ih0 := backstepref10_Part.mono_l k
    · intro y0 y1 y2 y3 y4
      unfold backstepref10_Part.l0
      repeat' first
      | (with_reducible exact ih0 _ _ _ _ _)
      | (with_reducible exact LeO.refl _)
      | (with_reducible exact LeO.none _)
      | (with_reducible refine LeO.ite ?_ ?_)
      | (with_reducible refine LeO.bind ?_ (fun _ => ?_))
      | exact ih0 _ _ _ _ _
      | exact LeO.none _
      | refine LeO.ite ?_ ?_
      | refine LeO.bind ?_ (fun _ => ?_)
theorem backstepref10_Part.mono : ∀ a0 a1 a2 a3 k, LeO (backstepref10_Part.f k a0 a1 a2 a3) (backstepref10_Part.f (k + 1) a0 a1 a2 a3) := by
  intro a0 a1 a2 a3 k
  have ih0 := backstepref10_Part.mono_l k
  unfold backstepref10_Part.f
  repeat' first
      | (with_reducible exact ih0 _ _ _ _ _)
      | (with_reducible exact LeO.refl _)
      | (with_reducible exact LeO.none _)
      | (with_reducible refine LeO.ite ?_ ?_)
      | (with_reducible refine LeO.bind ?_ (fun _ => ?_))
      | exact ih0 _ _ _ _ _
      | exact LeO.none _
      | refine LeO.ite ?_ ?_
      | refine LeO.bind ?_ (fun _ => ?_)
set_option maxHeartbeats 8000000 in
set_option maxRecDepth 100000 in
theorem backstepref10_Part.calls (k : Nat) (P0_0_ : Nat → Prop) (A0_0 : Option Addr) (c0_0 : Nat) (l0_0 : List (List Int)) (A0_1 : Option Addr) (c0_1 : Nat) (l0_1 : List Int) (P0_2_ : Nat → Prop) (u9000_ : Value) (l0_2 : List Int) (a1 : Int) (r : List Int) (w0 w : World) (hB : Below w0.heap.size w0 w) (hs0_0 : Kd.V (Kd.slice 3 (Kd.int .i64)) 23 w w0.heap.size (fun k_ => P0_0_ k_ ∧ some k_ ≠ (u9000_ : Value).ownBlock) (.slice A0_0 l0_0.length c0_0) l0_0) (hr0_1 : ∀ W_, Kept w W_ (fun k_ => P0_2_ k_) → Kd.C (Kd.int .i64) W_ A0_1 l0_1.length l0_1) (hc0_1 : l0_1.length ≤ c0_1) (ho0_2 : Kd.R (Kd.int .i64) 3 w w0.heap.size P0_2_ u9000_ l0_2) (h : backstepref10_Part.f k l0_0 l0_1 l0_2 a1 = some r) :
    Calls Try.prog 36 #[.agg #[.slice A0_0 l0_0.length c0_0, .slice A0_1 l0_1.length c0_1, u9000_], .int .i64 a1] w fun e w' => ∃ v0_ : Value, e = .returned (v0_) ∧ Kd.V (Kd.int .i64) 3 w' w0.heap.size (fun k_ => ((P0_2_ k_ ∨ P0_0_ k_) ∨ w.heap.size ≤ k_)) v0_ r ∧ Below w0.heap.size w0 w' ∧ Kept w w' (fun k_ => P0_2_ k_) := by
  have hu25 := Try.underlying25
  have HO0_0 := Aside0.mk (show Kd.V (Kd.slice 3 (Kd.int .i64)) 23 w w0.heap.size (fun k_ => ((P0_2_ k_ ∨ P0_0_ k_) ∨ w.heap.size ≤ k_) ∧ some k_ ≠ (u9000_ : Value).ownBlock) (.slice A0_0 l0_0.length c0_0) l0_0 from Kd.V_mono hs0_0 (fun k_ hk => ⟨.inl (.inr hk.1), hk.2⟩))
  have HR0_1 := Aside0.mk hr0_1
  have HC0_1 := Aside0.mk hc0_1
  clear hr0_1 hc0_1
  have HO0_2 := Aside0.mk (show Kd.R (Kd.int .i64) 3 w w0.heap.size (fun k_ => (P0_2_ k_ ∨ w.heap.size ≤ k_)) u9000_ l0_2 from Kd.R_mono ho0_2 (fun k_ hk => (.inl hk)))
  have HK := Aside0.mk (Kept.refl w (fun k_ => P0_2_ k_))
  have HW0 := Aside0.mk hB.size
  have HB := Aside0.mk hB
  clear hB
  have H : (if a1 ≥ 0 then (if 0 ≤ a1 then (if a1 < (l0_0.length : Int) then (some (rd_L1 l0_0 a1)) else (none)) else (none)) else (if a1 = (-2) then (some l0_2) else (backstepref10_Part.l0 k ([] : List Int) (wrap64 ((l0_1.length : Int) - 1)) l0_0 l0_1 l0_2))) = some r := h
  clear h
  by_cases c3 : a1 ≥ 0
  · rw [if_pos c3] at H
    have c3b0 : decide (0 ≤ a1) = true := decide_eq_true c3
    clear c3
    by_cases c4 : 0 ≤ a1
    · rw [if_pos c4] at H
      have c4b0 : decide (0 ≤ a1) = true := decide_eq_true c4
      clear c4
      by_cases c5 : a1 < (l0_0.length : Int)
      · rw [if_pos c5] at H
        have c5b0 : decide (a1 < (l0_0.length : Int)) = true := decide_eq_true c5
        clear c5
        obtain rfl := Option.some.inj H
        obtain ⟨Ao6, co6, eo6⟩ := Kd.R_slice HO0_2.out
        subst eo6
        go_enter Try.func36, Try.ntmps36
        go_wp2_with (first | ((with_reducible refine gate_dst (N := 2) rfl ?_); refine box_event ?hg (N := 2) ?hd (cs := #[.slice A0_0 l0_0.length c0_0, .slice A0_1 l0_1.length c0_1, .slice Ao6 l0_2.length co6]) (t := 25) ?hr ?_; (case hd => rfl); (case hg => rfl); (case hr => first | (go_simp; done) | (go_simp; rfl)); intro gb367 hg w7 hbox hb; have n0_ := Aside0.mk (Kd.R_below (by (with_reducible repeat (first | apply Kd.R_alloc | apply Kd.R_drewN | apply Kd.R_drew)); exact HO0_2.out) hb); have n1_ := Aside0.mk (Kd.V_below (Kd.V_elderB (by (with_reducible repeat (first | apply Kd.V_alloc | apply Kd.V_drewN | apply Kd.V_drew)); exact HO0_0.out) gb367 (Nat.le_of_eq hg.symm)) hb); have n2_ := Aside0.mk (Kept.below (S := (fun k_ => P0_2_ k_)) (by repeat (first | (with_reducible first | exact HK.out | apply Kept.alloc | apply Kept.drewN | apply Kept.drew) | exact HK.out)) hb); have n3_ := Aside0.mk (below_step (by repeat (first | (with_reducible first | exact HB.out | apply below_alloc | apply pw_below_drewN | apply below_drew1) | exact HB.out)) hb); have n4_ := Aside0.mk (hbox); have n5_ := Aside0.mk ((by rw [hg]; exact (by first | exact HK.out.1 | exact (show Kept w _ (fun k_ => P0_2_ k_) from by repeat (first | (with_reducible first | exact HK.out | apply Kept.alloc | apply Kept.drewN | apply Kept.drew) | exact HK.out)).1) : w.heap.size ≤ gb367)); have n6_ := Aside0.mk ((by rw [hg]; exact (below_size (by repeat (first | (with_reducible first | exact HB.out | apply below_alloc | apply pw_below_drewN | apply below_drew1) | exact HB.out))) : w0.heap.size ≤ gb367)); clear HO0_2; clear HO0_0; clear HK; clear HB; have HO0_2 := n0_; have HO0_0 := n1_; have HK := n2_; have HB := n3_; have BK367 := n4_; have GW367 := n5_; have GE367 := n6_; clear n0_ n1_ n2_ n3_ n4_ n5_ n6_; clear hb hbox hg; have hcz8_0 : w7.cell? ⟨gb367, 0, none⟩ = some (.slice A0_0 l0_0.length c0_0) := (blk_cell BK367.out 0).trans rfl; have hcz8_1 : w7.cell? ⟨gb367, 1, none⟩ = some (.slice A0_1 l0_1.length c0_1) := (blk_cell BK367.out 1).trans rfl; have hcz8_2 : w7.cell? ⟨gb367, 2, none⟩ = some (.slice Ao6 l0_2.length co6) := (blk_cell BK367.out 2).trans rfl; have hfz8_0 := blk_frozen BK367.out 0; have hfz8_1 := blk_frozen BK367.out 1; have hfz8_2 := blk_frozen BK367.out 2; have p368 : 0 ≤ (a1 : Int) := of_decide_eq_true (by first | (with_reducible assumption) | assumption); have q368 : a1 < (l0_0.length : Int) := of_decide_eq_true (by first | (with_reducible assumption) | assumption); obtain ⟨ad368, A368_0, c368_0, e368, hx368_0, hl368_0, hi368_0⟩ := at_L1 (Kd.V_reads' HO0_0.out).2.2 a1 p368 q368; cases e368; obtain ⟨ce368, hce368, hMe368, hcc368⟩ := Kd.V_get HO0_0.out [] a1 p368 (by first | exact q368 | exact of_decide_eq_true (by first | (with_reducible assumption) | assumption) | (have e_ := (Kd.V_reads' HO0_0.out).1; omega)); obtain ⟨ua368_0, uc368_0, rfl, ul368_0, ge368_0⟩ := Kd.FK_slice_open hMe368; have hv368_0 := hcc368 0 _ rfl; rw [Nat.add_zero, show ((Kd.slice 3 (Kd.int .i64))).sz = 1 from rfl, Nat.mul_one] at hv368_0; replace hv368_0 := Option.some.inj (hv368_0.symm.trans hx368_0); injection hv368_0 with hva_ hvn_ hvc_; rw [hva_] at ge368_0; rw [hvc_] at ul368_0; have HL368_0 := Aside0.mk (show Kd.V (Kd.int .i64) 3 _ w0.heap.size _ _ (rd_L1 l0_0 a1) from Kd.V_mk ul368_0 ge368_0); clear hva_ hvn_ hvc_ ge368_0 ul368_0; clear hcc368 hce368; have HR368_0 := Aside0.mk hi368_0; have HC368_0 := Aside0.mk hl368_0; clear hi368_0 hl368_0; replace p368 := eq_true p368; replace q368 := eq_true q368))
        go_ret
        exact ⟨_, by first | rfl | (simp [errW_none, errW_some] <;> rfl) | (simp [*, errW_none, errW_some] <;> rfl), by (with_reducible repeat (first | apply Kd.V_alloc | apply Kd.V_drewN | apply Kd.V_drew)); exact Kd.V_mono HL368_0.out (fun _ hk => hk.1.1), by repeat (first | (with_reducible first | exact HB.out | apply below_alloc | apply pw_below_drewN | apply below_drew1 | refine below_set ?_ GE367.out) | exact HB.out), by repeat (first | (with_reducible first | exact HK.out | apply Kept.alloc | apply Kept.drewN | apply Kept.drew | refine Kept.setCell ?_ (.inr GW367.out) _) | exact HK.out)⟩
      · rw [if_neg c5] at H
        exact absurd H (by simp)
    · rw [if_neg c4] at H
      exact absurd H (by simp)
  · rw [if_neg c3] at H
    have c3b0 : decide (0 ≤ a1) = false := decide_eq_false c3
    clear c3
    by_cases c9 : a1 = (-2)
    · rw [if_pos c9] at H
      have c9b0 : (a1 == (-2)) = true := beq_iff_eq.mpr c9
      have c9b1 : (a1 != (-2)) = false := bne_eq_false_iff_eq.mpr c9
      clear c9
      obtain rfl := Option.some.inj H
      obtain ⟨Ao10, co10, eo10⟩ := Kd.R_slice HO0_2.out
      subst eo10
      go_enter Try.func36, Try.ntmps36
      go_wp2_with (first | ((with_reducible refine gate_dst (N := 2) rfl ?_); refine box_event ?hg (N := 2) ?hd (cs := #[.slice A0_0 l0_0.length c0_0, .slice A0_1 l0_1.length c0_1, .slice Ao10 l0_2.length co10]) (t := 25) ?hr ?_; (case hd => rfl); (case hg => rfl); (case hr => first | (go_simp; done) | (go_simp; rfl)); intro gb367 hg w11 hbox hb; have n0_ := Aside0.mk (Kd.R_below (by (with_reducible repeat (first | apply Kd.R_alloc | apply Kd.R_drewN | apply Kd.R_drew)); exact HO0_2.out) hb); have n1_ := Aside0.mk (Kd.V_below (Kd.V_elderB (by (with_reducible repeat (first | apply Kd.V_alloc | apply Kd.V_drewN | apply Kd.V_drew)); exact HO0_0.out) gb367 (Nat.le_of_eq hg.symm)) hb); have n2_ := Aside0.mk (Kept.below (S := (fun k_ => P0_2_ k_)) (by repeat (first | (with_reducible first | exact HK.out | apply Kept.alloc | apply Kept.drewN | apply Kept.drew) | exact HK.out)) hb); have n3_ := Aside0.mk (below_step (by repeat (first | (with_reducible first | exact HB.out | apply below_alloc | apply pw_below_drewN | apply below_drew1) | exact HB.out)) hb); have n4_ := Aside0.mk (hbox); have n5_ := Aside0.mk ((by rw [hg]; exact (by first | exact HK.out.1 | exact (show Kept w _ (fun k_ => P0_2_ k_) from by repeat (first | (with_reducible first | exact HK.out | apply Kept.alloc | apply Kept.drewN | apply Kept.drew) | exact HK.out)).1) : w.heap.size ≤ gb367)); have n6_ := Aside0.mk ((by rw [hg]; exact (below_size (by repeat (first | (with_reducible first | exact HB.out | apply below_alloc | apply pw_below_drewN | apply below_drew1) | exact HB.out))) : w0.heap.size ≤ gb367)); clear HO0_2; clear HO0_0; clear HK; clear HB; have HO0_2 := n0_; have HO0_0 := n1_; have HK := n2_; have HB := n3_; have BK367 := n4_; have GW367 := n5_; have GE367 := n6_; clear n0_ n1_ n2_ n3_ n4_ n5_ n6_; clear hb hbox hg; have hcz12_0 : w11.cell? ⟨gb367, 0, none⟩ = some (.slice A0_0 l0_0.length c0_0) := (blk_cell BK367.out 0).trans rfl; have hcz12_1 : w11.cell? ⟨gb367, 1, none⟩ = some (.slice A0_1 l0_1.length c0_1) := (blk_cell BK367.out 1).trans rfl; have hcz12_2 : w11.cell? ⟨gb367, 2, none⟩ = some (.slice Ao10 l0_2.length co10) := (blk_cell BK367.out 2).trans rfl; have hfz12_0 := blk_frozen BK367.out 0; have hfz12_1 := blk_frozen BK367.out 1; have hfz12_2 := blk_frozen BK367.out 2))
      go_ret
      exact ⟨_, by first | rfl | (simp [errW_none, errW_some] <;> rfl) | (simp [*, errW_none, errW_some] <;> rfl), Kd.V_mono (Kd.R_V (by (with_reducible repeat (first | apply Kd.R_alloc | apply Kd.R_drewN | apply Kd.R_drew)); exact HO0_2.out)) (fun k_ hk => by first | exact ⟨(Or.imp_left (fun h_ => (.inl h_)) (hk.1)), hk.2⟩ | exact (Or.imp_left (fun h_ => (.inl h_)) (hk))), by repeat (first | (with_reducible first | exact HB.out | apply below_alloc | apply pw_below_drewN | apply below_drew1 | refine below_set ?_ GE367.out) | exact HB.out), by repeat (first | (with_reducible first | exact HK.out | apply Kept.alloc | apply Kept.drewN | apply Kept.drew | refine Kept.setCell ?_ (.inr GW367.out) _) | exact HK.out)⟩
    · rw [if_neg c9] at H
      have c9b0 : (a1 == (-2)) = false := beq_eq_false_iff_ne.mpr c9
      have c9b1 : (a1 != (-2)) = true := bne_iff_ne.mpr c9
      have H' := Aside0.mk H
      clear H
      obtain ⟨Ao13, co13, eo13⟩ := Kd.R_slice HO0_2.out
      subst eo13
      go_enter Try.func36, Try.ntmps36
      go_wp2_with (first | ((with_reducible refine gate_dst (N := 2) rfl ?_); refine box_event ?hg (N := 2) ?hd (cs := #[.slice A0_0 l0_0.length c0_0, .slice A0_1 l0_1.length c0_1, .slice Ao13 l0_2.length co13]) (t := 25) ?hr ?_; (case hd => rfl); (case hg => rfl); (case hr => first | (go_simp; done) | (go_simp; rfl)); intro gb367 hg w14 hbox hb; have n0_ := Aside0.mk (Kd.R_below (by (with_reducible repeat (first | apply Kd.R_alloc | apply Kd.R_drewN | apply Kd.R_drew)); exact HO0_2.out) hb); have n1_ := Aside0.mk (Kd.V_below (Kd.V_elderB (by (with_reducible repeat (first | apply Kd.V_alloc | apply Kd.V_drewN | apply Kd.V_drew)); exact HO0_0.out) gb367 (Nat.le_of_eq hg.symm)) hb); have n2_ := Aside0.mk (Kept.below (S := (fun k_ => P0_2_ k_)) (by repeat (first | (with_reducible first | exact HK.out | apply Kept.alloc | apply Kept.drewN | apply Kept.drew) | exact HK.out)) hb); have n3_ := Aside0.mk (below_step (by repeat (first | (with_reducible first | exact HB.out | apply below_alloc | apply pw_below_drewN | apply below_drew1) | exact HB.out)) hb); have n4_ := Aside0.mk (hbox); have n5_ := Aside0.mk ((by rw [hg]; exact (by first | exact HK.out.1 | exact (show Kept w _ (fun k_ => P0_2_ k_) from by repeat (first | (with_reducible first | exact HK.out | apply Kept.alloc | apply Kept.drewN | apply Kept.drew) | exact HK.out)).1) : w.heap.size ≤ gb367)); have n6_ := Aside0.mk ((by rw [hg]; exact (below_size (by repeat (first | (with_reducible first | exact HB.out | apply below_alloc | apply pw_below_drewN | apply below_drew1) | exact HB.out))) : w0.heap.size ≤ gb367)); clear HO0_2; clear HO0_0; clear HK; clear HB; have HO0_2 := n0_; have HO0_0 := n1_; have HK := n2_; have HB := n3_; have BK367 := n4_; have GW367 := n5_; have GE367 := n6_; clear n0_ n1_ n2_ n3_ n4_ n5_ n6_; clear hb hbox hg; have hcz15_0 : w14.cell? ⟨gb367, 0, none⟩ = some (.slice A0_0 l0_0.length c0_0) := (blk_cell BK367.out 0).trans rfl; have hcz15_1 : w14.cell? ⟨gb367, 1, none⟩ = some (.slice A0_1 l0_1.length c0_1) := (blk_cell BK367.out 1).trans rfl; have hcz15_2 : w14.cell? ⟨gb367, 2, none⟩ = some (.slice Ao13 l0_2.length co13) := (blk_cell BK367.out 2).trans rfl; have hfz15_0 := blk_frozen BK367.out 0; have hfz15_1 := blk_frozen BK367.out 1; have hfz15_2 := blk_frozen BK367.out 2))
      go_loopg [5, 6] k (fun kq v5 v6 w' => ∃ (x5_1 : List Int) (x6_1 : Int), v6 = .int .i64 x6_1 ∧ Aside0 (backstepref10_Part.l0 kq x5_1 x6_1 l0_0 l0_1 l0_2 = some r) ∧ Aside0 (kq ≤ k) ∧ Aside0 (Kd.R (Kd.int .i64) 3 w' w0.heap.size (fun k_ => (P0_2_ k_ ∨ w.heap.size ≤ k_) ∧ some k_ ≠ ((.slice Ao13 l0_2.length co13) : Value).ownBlock) v5 x5_1) ∧ Aside0 (Kd.V (Kd.slice 3 (Kd.int .i64)) 23 w' w0.heap.size (fun k_ => ((P0_2_ k_ ∨ P0_0_ k_) ∨ w.heap.size ≤ k_) ∧ some k_ ≠ (v5 : Value).ownBlock ∧ some k_ ≠ ((.slice Ao13 l0_2.length co13) : Value).ownBlock ∧ k_ ≠ gb367) (.slice A0_0 l0_0.length c0_0) l0_0) ∧ Aside0 (Kd.R (Kd.int .i64) 3 w' w0.heap.size (fun k_ => (P0_2_ k_ ∨ w.heap.size ≤ k_) ∧ some k_ ≠ (v5 : Value).ownBlock) (.slice Ao13 l0_2.length co13) l0_2) ∧ Aside0 (w'.heap[gb367]? = some (.cells #[(.slice A0_0 l0_0.length c0_0), (.slice A0_1 l0_1.length c0_1), (.slice Ao13 l0_2.length co13)] 25 (0, 0))) ∧ Aside0 (Kept w w' (fun k_ => P0_2_ k_)) ∧ Aside0 (Below w0.heap.size w0 w'))
      case atStart => exact ⟨(([] : List Int)), (wrap64 ((l0_1.length : Int) - 1)), (by first | rfl | (simp; done) | (simp [*]; done)), H', ⟨Nat.le_refl _⟩, ⟨by first | exact Kd.R_nil _ _ _ _ _ | exact Kd.N_nil _ _ _ _ _ | exact Kd.V_nil _ _ _ _ _ | exact Kd.Q_nil _ _ _ _ _ | exact Kd.S_nil _ _ _ _ _⟩, ⟨by (with_reducible repeat (first | apply Kd.V_alloc | apply Kd.V_drewN | apply Kd.V_drew)); exact Kd.V_mono HO0_0.out (fun _ hk => ⟨hk.1.1, ⟨(by simp [Value.ownBlock]), ⟨hk.1.2, hk.2⟩⟩⟩)⟩, ⟨by (with_reducible repeat (first | apply Kd.R_alloc | apply Kd.R_drewN | apply Kd.R_drew)); exact Kd.R_mono HO0_2.out (fun _ hk => ⟨hk, (by simp [Value.ownBlock])⟩)⟩, ⟨by (with_reducible repeat (first | refine blk_drewN ?_ _ | refine blk_drew ?_ | refine blk_alloc ?_ _)); exact BK367.out⟩, ⟨by repeat (first | (with_reducible first | exact HK.out | apply Kept.alloc | apply Kept.drewN | apply Kept.drew | refine Kept.setCell ?_ (.inr GW367.out) _) | exact HK.out)⟩, ⟨by repeat (first | (with_reducible first | exact HB.out | apply below_alloc | apply pw_below_drewN | apply below_drew1 | refine below_set ?_ GE367.out) | exact HB.out)⟩⟩
      case round =>
        clear H'
        try clear p2
        try clear c3
        try clear c3b0
        try clear p3
        try clear q3
        try clear hx3
        try clear c4
        try clear c4b0
        try clear c5
        try clear c5b0
        try clear p6
        try clear c9
        try clear c9b0
        try clear c9b1
        try clear hcz12_0
        try clear hcz12_1
        try clear hcz12_2
        try clear hcz15_0
        try clear hcz15_1
        try clear hcz15_2
        try clear hcz8_0
        try clear hcz8_1
        try clear hcz8_2
        try clear hfz12_0
        try clear hfz12_1
        try clear hfz12_2
        try clear hfz15_0
        try clear hfz15_1
        try clear hfz15_2
        try clear hfz8_0
        try clear hfz8_1
        try clear hfz8_2
        try clear hx368_0
        try clear p368
        try clear q368
        obtain ⟨x5_1, x6_1, rfl, HA, HK1, HO_5, HO_368000, HO_368002, BK367, HK, HB⟩ := hrel
        cases gk with
        | zero => exact absurd HA.out (by simp [backstepref10_Part.l0])
        | succ k1 =>
          have H := HA.out
          clear HA
          simp only [backstepref10_Part.l0] at H
          by_cases c16 : x6_1 ≥ 0
          · rw [if_pos c16] at H
            have c16b0 : decide (0 ≤ x6_1) = true := decide_eq_true c16
            clear c16
            by_cases c17 : 0 ≤ x6_1
            · rw [if_pos c17] at H
              have c17b0 : decide (0 ≤ x6_1) = true := decide_eq_true c17
              clear c17
              by_cases c18 : x6_1 < (l0_1.length : Int)
              · rw [if_pos c18] at H
                have c18b0 : decide (x6_1 < (l0_1.length : Int)) = true := decide_eq_true c18
                clear c18
                by_cases c19 : x5_1.length < 17592186044416
                · rw [if_pos c19] at H
                  have LMc19 := Aside0.mk c19
                  clear c19
                  obtain ⟨y370, hy370⟩ : ∃ y_ : List Int, y_ = (x5_1 ++ [rd l0_1 x6_1]) := ⟨_, rfl⟩
                  replace H : (backstepref10_Part.l0 k1 y370 (wrap64 (x6_1 - 1)) l0_0 l0_1 l0_2) = some r := by first | (rw [hy370]; with_reducible exact H) | (have H2_ := (Option.bind_some _ _).symm.trans H; rw [hy370]; with_reducible exact H2_) | (have H2_ := (Option.bind_some _ _).symm.trans H; with_reducible exact H2_) | with_reducible exact H | (rw [hy370]; exact H) | exact H
                  have Ny370 := Aside0.mk hy370
                  clear hy370
                  have H' := Aside0.mk H
                  clear H
                  have hcz20_0 : wr.cell? ⟨gb367, 0, none⟩ = some (.slice A0_0 l0_0.length c0_0) := (blk_cell BK367.out 0).trans rfl
                  have hcz20_1 : wr.cell? ⟨gb367, 1, none⟩ = some (.slice A0_1 l0_1.length c0_1) := (blk_cell BK367.out 1).trans rfl
                  have hcz20_2 : wr.cell? ⟨gb367, 2, none⟩ = some (.slice Ao13 l0_2.length co13) := (blk_cell BK367.out 2).trans rfl
                  have hfz20_0 := blk_frozen BK367.out 0
                  have hfz20_1 := blk_frozen BK367.out 1
                  have hfz20_2 := blk_frozen BK367.out 2
                  have p369 : 0 ≤ (x6_1 : Int) := of_decide_eq_true (by first | (with_reducible assumption) | assumption)
                  have q369 : x6_1 < (l0_1.length : Int) := of_decide_eq_true (by first | (with_reducible assumption) | assumption)
                  obtain ⟨ad369, e369, hx369_0⟩ := Kd.at_int (Kd.C_kept_now HR0_1.out HK.out) x6_1 p369 q369
                  cases e369
                  replace p369 := eq_true p369
                  replace q369 := eq_true q369
                  go_wp2_with (first | ((with_reducible refine gate_builtin (b := .append) (xs := #[.tmp 26, .tmp 32]) rfl ?_); at_builtin; refine Kd.R_append (Kd.int .i64) (w0 := w0) w0.heap.size rfl (.tmp 26) (.tmp 32) 23 3 (.int .i64 0) 8 rfl Try.underlying23 info3 rfl (by decide) (by omega) u5 x5_1 (rd l0_1 x6_1) [.int .i64 (rd l0_1 x6_1)] (fun k_ => (P0_2_ k_ ∨ w.heap.size ≤ k_) ∧ some k_ ≠ (.slice Ao13 l0_2.length co13 : Value).ownBlock) (fun _ => False) rfl rfl ?aP (fun _ hk => hk.elim) ?aF ?aO ?aB ?aS ?aL ?_; (case aP => exact rfl); (case aB => exact (by repeat (first | (with_reducible first | exact HB.out | apply below_alloc | apply pw_below_drewN | apply below_drew1 | refine below_set ?_ GE367.out) | exact HB.out))); (case aF => exact (fun k_ hk => ⟨(.inr (Nat.le_trans (by first | exact HK.out.1 | exact (show Kept w _ (fun k_ => P0_2_ k_) from by repeat (first | (with_reducible first | exact HK.out | apply Kept.alloc | apply Kept.drewN | apply Kept.drew | refine Kept.setCell ?_ (.inr GW367.out) _) | exact HK.out)).1) hk)), Kd.fresh' (Kd.R_lt (by (with_reducible repeat (first | apply Kd.R_alloc | apply Kd.R_drewN | apply Kd.R_drew)); exact HO_368002.out)) k_ hk⟩)); (case aO => exact (by (with_reducible repeat (first | apply Kd.R_alloc | apply Kd.R_drewN | apply Kd.R_drew)); exact HO_5.out)); (case aS => exact (below_size (by repeat (first | (with_reducible first | exact HB.out | apply below_alloc | apply pw_below_drewN | apply below_drew1 | refine below_set ?_ GE367.out) | exact HB.out)))); (case aL => have := LMc19.out; omega); intro v371 w21 ho hb hg hat; rw [← Ny370.out] at ho; have n0_ := Aside0.mk (Kd.V_afterv (ok := (fun k_ => ((P0_2_ k_ ∨ P0_0_ k_) ∨ w.heap.size ≤ k_) ∧ some k_ ≠ (.slice Ao13 l0_2.length co13 : Value).ownBlock ∧ k_ ≠ gb367)) (by (with_reducible repeat (first | apply Kd.V_alloc | apply Kd.V_drewN | apply Kd.V_drew)); exact Kd.V_mono HO_368000.out (fun _ hk => ⟨⟨hk.1, ⟨hk.2.2.1, hk.2.2.2⟩⟩, hk.2.1⟩)) hg hat); have n1_ := Aside0.mk (Kd.R_after (ok := (fun k_ => (P0_2_ k_ ∨ w.heap.size ≤ k_))) (by (with_reducible repeat (first | apply Kd.R_alloc | apply Kd.R_drewN | apply Kd.R_drew)); exact HO_368002.out) hg hat); have n2_ := Aside0.mk (blk_grown (g := gb367) (o := .cells #[.slice A0_0 l0_0.length c0_0, .slice (some ad369) l0_1.length c0_1, .slice Ao13 l0_2.length co13] 25 (0, 0)) (by (with_reducible repeat (first | refine blk_drewN ?_ _ | refine blk_drew ?_ | refine blk_alloc ?_ _)); exact BK367.out) hg (Kd.R_ne HO_5.out BK367.out (by decide))); have n3_ := Aside0.mk (hb); have n4_ := Aside0.mk (Kept.of_grown (S := (fun k_ => P0_2_ k_)) hg (by repeat (first | (with_reducible first | exact HK.out | apply Kept.alloc | apply Kept.drewN | apply Kept.drew | refine Kept.setCell ?_ (.inr GW367.out) _) | exact HK.out)) (fun k_ e_ => (HO_5.out.1 k_ e_).1)); have n5_ := Aside0.mk (ho); clear HO_368000; clear HO_368002; clear BK367; clear HB; clear HK; clear HO_5; have HO_368000 := n0_; have HO_368002 := n1_; have BK367 := n2_; have HB := n3_; have HK := n4_; have HO372 := n5_; clear n0_ n1_ n2_ n3_ n4_ n5_; clear ho hb hg hat))
                  go_roundg k1
                  case measure => have := HK1.out; omega
                  case rel => exact ⟨(y370), (wrap64 (x6_1 - 1)), (by first | rfl | (simp; done) | (simp [*]; done)), H', ⟨by have := HK1.out; omega⟩, ⟨by (with_reducible repeat (first | apply Kd.R_alloc | apply Kd.R_drewN | apply Kd.R_drew)); exact HO372.out⟩, ⟨by (with_reducible repeat (first | apply Kd.V_alloc | apply Kd.V_drewN | apply Kd.V_drew)); exact Kd.V_mono HO_368000.out (fun _ hk => ⟨hk.1.1, ⟨hk.2, ⟨hk.1.2.1, hk.1.2.2⟩⟩⟩)⟩, ⟨by (with_reducible repeat (first | apply Kd.R_alloc | apply Kd.R_drewN | apply Kd.R_drew)); exact HO_368002.out⟩, ⟨by (with_reducible repeat (first | refine blk_drewN ?_ _ | refine blk_drew ?_ | refine blk_alloc ?_ _)); exact BK367.out⟩, ⟨by repeat (first | (with_reducible first | exact HK.out | apply Kept.alloc | apply Kept.drewN | apply Kept.drew | refine Kept.setCell ?_ (.inr GW367.out) _) | exact HK.out)⟩, ⟨by repeat (first | (with_reducible first | exact HB.out | apply below_alloc | apply pw_below_drewN | apply below_drew1 | refine below_set ?_ GE367.out) | exact HB.out)⟩⟩
                · rw [if_neg c19] at H
                  exact absurd H (by simp)
              · rw [if_neg c18] at H
                exact absurd H (by simp)
            · rw [if_neg c17] at H
              exact absurd H (by simp)
          · rw [if_neg c16] at H
            have c16b0 : decide (0 ≤ x6_1) = false := decide_eq_false c16
            clear c16
            obtain rfl := Option.some.inj H
            go_wp2
            go_ret
            exact ⟨_, by first | rfl | (simp [errW_none, errW_some] <;> rfl) | (simp [*, errW_none, errW_some] <;> rfl), Kd.V_mono (Kd.R_V (by (with_reducible repeat (first | apply Kd.R_alloc | apply Kd.R_drewN | apply Kd.R_drew)); exact Kd.R_mono HO_5.out (fun _ hk => hk.1))) (fun k_ hk => by first | exact ⟨(Or.imp_left (fun h_ => (.inl h_)) (hk.1)), hk.2⟩ | exact (Or.imp_left (fun h_ => (.inl h_)) (hk))), by repeat (first | (with_reducible first | exact HB.out | apply below_alloc | apply pw_below_drewN | apply below_drew1 | refine below_set ?_ GE367.out) | exact HB.out), by repeat (first | (with_reducible first | exact HK.out | apply Kept.alloc | apply Kept.drewN | apply Kept.drew | refine Kept.setCell ?_ (.inr GW367.out) _) | exact HK.out)⟩

/-! ### backstepref10_at: function 37 -/
def backstepref10_at.f (l0 : List Int) (a1 : Int) : Option (Int) := if a1 < (l0.length : Int) then (if 0 ≤ a1 then (some (rd l0 a1)) else (none)) else (some 0)
set_option maxHeartbeats 8000000 in
set_option maxRecDepth 100000 in
theorem backstepref10_at.calls (A0 : Option Addr) (c0 : Nat) (l0 : List Int) (a1 : Int) (r : Int) (w : World) (hr0 : Kd.C (Kd.int .i64) w A0 l0.length l0) (hc0 : l0.length ≤ c0) (h : backstepref10_at.f l0 a1 = some r) :
    Calls Try.prog 37 #[.slice A0 l0.length c0, .int .i64 a1] w fun e w' => e = .returned (.int .i64 r) ∧ Drawn0 w w' := by
  have HR0 := Aside0.mk hr0
  have HC0 := Aside0.mk hc0
  clear hr0 hc0
  have H : (if a1 < (l0.length : Int) then (if 0 ≤ a1 then (some (rd l0 a1)) else (none)) else (some 0)) = some r := h
  clear h
  by_cases c3 : a1 < (l0.length : Int)
  · rw [if_pos c3] at H
    have c3b0 : decide (a1 < (l0.length : Int)) = true := decide_eq_true c3
    clear c3
    by_cases c4 : 0 ≤ a1
    · rw [if_pos c4] at H
      have c4b0 : decide (0 ≤ a1) = true := decide_eq_true c4
      clear c4
      obtain rfl := Option.some.inj H
      have p373 : 0 ≤ (a1 : Int) := of_decide_eq_true (by first | (with_reducible assumption) | assumption)
      have q373 : a1 < (l0.length : Int) := of_decide_eq_true (by first | (with_reducible assumption) | assumption)
      obtain ⟨ad373, e373, hx373_0⟩ := Kd.at_int HR0.out a1 p373 q373
      cases e373
      replace p373 := eq_true p373
      replace q373 := eq_true q373
      go_enter Try.func37, Try.ntmps37
      go_wp2
      go_ret
      exact ⟨by first | rfl | (simp; done) | (simp [*]; done), by repeat (first | exact Drawn0.refl _ | apply Drawn0.step)⟩
    · rw [if_neg c4] at H
      exact absurd H (by simp)
  · rw [if_neg c3] at H
    have c3b0 : decide (a1 < (l0.length : Int)) = false := decide_eq_false c3
    clear c3
    obtain rfl := Option.some.inj H
    go_enter Try.func37, Try.ntmps37
    go_wp2
    go_ret
    exact ⟨by first | rfl | (simp; done) | (simp [*]; done), by repeat (first | exact Drawn0.refl _ | apply Drawn0.step)⟩

-- NOT PRINTED: function 17 (backstepref10_Diff)

-- NOT PRINTED: function 3 (backsteplaw10_StateDiffs)

/-! ### state_number: function 56 -/
def state_number.l0 : Nat → Int → List Int → Int → Int → Option (Int)
  | 0, _, _, _, _ => none
  | k + 1, x3, x6, x7, x8 => if x8 < x7 then (if 0 ≤ x8 then (if x8 < (x6.length : Int) then (state_number.l0 k (Go.bits .or .u64 (IntKind.u64.wrap (x3 * 256)) (IntKind.u64.wrap (rd x6 x8))) x6 x7 (wrap64 (x8 + 1))) else (none)) else (none)) else (some (wrap64 (x3)))
def state_number.f (k : Nat) (l0 : List Int) : Option (Int) := state_number.l0 k 0 l0 (l0.length : Int) 0
theorem state_number.mono_l : ∀ k, (∀ y0 y1 y2 y3, LeO (state_number.l0 k y0 y1 y2 y3) (state_number.l0 (k + 1) y0 y1 y2 y3))
  | 0 => fun _ _ _ _ r h => by simp [state_number.l0] at h
  | k + 1 => by
    have ih0 := state_number.mono_l k
    · intro y0 y1 y2 y3
      unfold state_number.l0
      repeat' first
      | (with_reducible exact ih0 _ _ _ _)
      | (with_reducible exact LeO.refl _)
      | (with_reducible exact LeO.none _)
      | (with_reducible refine LeO.ite ?_ ?_)
      | (with_reducible refine LeO.bind ?_ (fun _ => ?_))
      | exact ih0 _ _ _ _
      | exact LeO.none _
      | refine LeO.ite ?_ ?_
      | refine LeO.bind ?_ (fun _ => ?_)
theorem state_number.mono : ∀ a0 k, LeO (state_number.f k a0) (state_number.f (k + 1) a0) := by
  intro a0 k
  have ih0 := state_number.mono_l k
  unfold state_number.f
  repeat' first
      | (with_reducible exact ih0 _ _ _ _)
      | (with_reducible exact LeO.refl _)
      | (with_reducible exact LeO.none _)
      | (with_reducible refine LeO.ite ?_ ?_)
      | (with_reducible refine LeO.bind ?_ (fun _ => ?_))
      | exact ih0 _ _ _ _
      | exact LeO.none _
      | refine LeO.ite ?_ ?_
      | refine LeO.bind ?_ (fun _ => ?_)
set_option maxHeartbeats 8000000 in
set_option maxRecDepth 100000 in
theorem state_number.calls (k : Nat) (A0 : Option Addr) (c0 : Nat) (l0 : List Int) (r : Int) (w : World) (hr0 : Kd.C (Kd.int .u8) w A0 l0.length l0) (hc0 : l0.length ≤ c0) (h : state_number.f k l0 = some r) :
    Calls Try.prog 56 #[.slice A0 l0.length c0] w fun e w' => e = .returned (.int .i64 r) ∧ Drawn0 w w' := by
  have HR0 := Aside0.mk hr0
  have HC0 := Aside0.mk hc0
  clear hr0 hc0
  have H : (state_number.l0 k 0 l0 (l0.length : Int) 0) = some r := h
  clear h
  have H' := Aside0.mk H
  clear H
  go_enter Try.func56, Try.ntmps56
  go_wp2
  go_loopg [3, 8] k (fun kq v3 v8 w' => ∃ (x3_1 : Int) (x8_1 : Int), v3 = .int .u64 x3_1 ∧ v8 = .int .i64 x8_1 ∧ Aside0 (state_number.l0 kq x3_1 l0 (l0.length : Int) x8_1 = some r) ∧ Aside0 (kq ≤ k) ∧ Drawn0 w w')
  case atStart => exact ⟨(0), (0), (by first | rfl | (simp; done) | (simp [*]; done)), (by first | rfl | (simp; done) | (simp [*]; done)), H', ⟨Nat.le_refl _⟩, by repeat (first | exact Drawn0.refl _ | apply Drawn0.step)⟩
  case round =>
    clear H'
    obtain ⟨x3_1, x8_1, rfl, rfl, HA, HK1, ⟨m1, rfl⟩⟩ := hrel
    cases gk with
    | zero => exact absurd HA.out (by simp [state_number.l0])
    | succ k1 =>
      have H := HA.out
      clear HA
      simp only [state_number.l0] at H
      by_cases c2 : x8_1 < (l0.length : Int)
      · rw [if_pos c2] at H
        have c2b0 : decide (x8_1 < (l0.length : Int)) = true := decide_eq_true c2
        clear c2
        by_cases c3 : 0 ≤ x8_1
        · rw [if_pos c3] at H
          have c3b0 : decide (0 ≤ x8_1) = true := decide_eq_true c3
          clear c3
          by_cases c4 : x8_1 < (l0.length : Int)
          · rw [if_pos c4] at H
            have c4b0 : decide (x8_1 < (l0.length : Int)) = true := decide_eq_true c4
            clear c4
            have H' := Aside0.mk H
            clear H
            have p403 : 0 ≤ (x8_1 : Int) := of_decide_eq_true (by first | (with_reducible assumption) | assumption)
            have q403 : x8_1 < (l0.length : Int) := of_decide_eq_true (by first | (with_reducible assumption) | assumption)
            obtain ⟨ad403, e403, hx403_0⟩ := Kd.at_int HR0.out x8_1 p403 q403
            cases e403
            replace p403 := eq_true p403
            replace q403 := eq_true q403
            go_wp2
            go_roundg k1
            case measure => have := HK1.out; omega
            case rel => exact ⟨(Go.bits .or .u64 (IntKind.u64.wrap (x3_1 * 256)) (IntKind.u64.wrap (rd l0 x8_1))), (wrap64 (x8_1 + 1)), (by first | rfl | (simp; done) | (simp [*]; done)), (by first | rfl | (simp; done) | (simp [*]; done)), H', ⟨by have := HK1.out; omega⟩, by repeat (first | exact Drawn0.refl _ | apply Drawn0.step)⟩
          · rw [if_neg c4] at H
            exact absurd H (by simp)
        · rw [if_neg c3] at H
          exact absurd H (by simp)
      · rw [if_neg c2] at H
        have c2b0 : decide (x8_1 < (l0.length : Int)) = false := decide_eq_false c2
        clear c2
        obtain rfl := Option.some.inj H
        go_wp2
        go_ret
        exact ⟨by first | rfl | (simp; done) | (simp [*]; done), by repeat (first | exact Drawn0.refl _ | apply Drawn0.step)⟩

-- NOT PRINTED: function 44 (state_reader_count)

-- NOT PRINTED: function 45 (state_reader_list)

-- NOT PRINTED: function 28 (state_Decode)

/-! ### backstepref10_Number: function 57 -/
def backstepref10_Number.l0 : Nat → Int → List Int → Int → Option (List Int)
  | 0, _, _, _ => none
  | k + 1, x0, x3, x4 => if x4 ≥ 0 then (if 0 ≤ (wrap64 (8 * x4)) then (if x3.length < 140737488355328 then (backstepref10_Number.l0 k x0 (x3 ++ [(shr .u64 (IntKind.u64.wrap (x0)) (wrap64 (8 * x4))) % 256]) (wrap64 (x4 - 1))) else (none)) else (none)) else (some x3)
def backstepref10_Number.f (k : Nat) (a0 : Int) : Option (List Int) := backstepref10_Number.l0 k a0 ([] : List Int) 7
theorem backstepref10_Number.mono_l : ∀ k, (∀ y0 y1 y2, LeO (backstepref10_Number.l0 k y0 y1 y2) (backstepref10_Number.l0 (k + 1) y0 y1 y2))
  | 0 => fun _ _ _ r h => by simp [backstepref10_Number.l0] at h
  | k + 1 => by
    have ih0 := backstepref10_Number.mono_l k
    · intro y0 y1 y2
      unfold backstepref10_Number.l0
      repeat' first
      | (with_reducible exact ih0 _ _ _)
      | (with_reducible exact LeO.refl _)
      | (with_reducible exact LeO.none _)
      | (with_reducible refine LeO.ite ?_ ?_)
      | (with_reducible refine LeO.bind ?_ (fun _ => ?_))
      | exact ih0 _ _ _
      | exact LeO.none _
      | refine LeO.ite ?_ ?_
      | refine LeO.bind ?_ (fun _ => ?_)
theorem backstepref10_Number.mono : ∀ a0 k, LeO (backstepref10_Number.f k a0) (backstepref10_Number.f (k + 1) a0) := by
  intro a0 k
  have ih0 := backstepref10_Number.mono_l k
  unfold backstepref10_Number.f
  repeat' first
      | (with_reducible exact ih0 _ _ _)
      | (with_reducible exact LeO.refl _)
      | (with_reducible exact LeO.none _)
      | (with_reducible refine LeO.ite ?_ ?_)
      | (with_reducible refine LeO.bind ?_ (fun _ => ?_))
      | exact ih0 _ _ _
      | exact LeO.none _
      | refine LeO.ite ?_ ?_
      | refine LeO.bind ?_ (fun _ => ?_)
set_option maxHeartbeats 8000000 in
set_option maxRecDepth 100000 in
theorem backstepref10_Number.calls (k : Nat) (a0 : Int) (r : List Int) (w : World) (h : backstepref10_Number.f k a0 = some r) :
    Calls Try.prog 57 #[.int .i64 a0] w fun e w' => ∃ v0_ : Value, e = .returned (v0_) ∧ Kd.R (Kd.int .u8) 5 w' w.heap.size (fun _ => True) v0_ r ∧ Below w.heap.size w w' := by
  have HB := Aside0.mk (Below.refl w.heap.size w)
  have H : (backstepref10_Number.l0 k a0 ([] : List Int) 7) = some r := h
  clear h
  have H' := Aside0.mk H
  clear H
  go_enter Try.func57, Try.ntmps57
  go_wp2
  go_loopg [3, 4] k (fun kq v3 v4 w' => ∃ (x3_1 : List Int) (x4_1 : Int), v4 = .int .i64 x4_1 ∧ Aside0 (backstepref10_Number.l0 kq a0 x3_1 x4_1 = some r) ∧ Aside0 (kq ≤ k) ∧ Aside0 (Kd.R (Kd.int .u8) 5 w' w.heap.size (fun _ => True) v3 x3_1) ∧ Aside0 (Below w.heap.size w w'))
  case atStart => exact ⟨(([] : List Int)), (7), (by first | rfl | (simp; done) | (simp [*]; done)), H', ⟨Nat.le_refl _⟩, ⟨by first | exact Kd.R_nil _ _ _ _ _ | exact Kd.N_nil _ _ _ _ _ | exact Kd.V_nil _ _ _ _ _ | exact Kd.Q_nil _ _ _ _ _ | exact Kd.S_nil _ _ _ _ _⟩, ⟨by repeat (first | (with_reducible first | exact HB.out | apply below_alloc | apply pw_below_drewN | apply below_drew1) | exact HB.out)⟩⟩
  case round =>
    clear H'
    obtain ⟨x3_1, x4_1, rfl, HA, HK1, HO_3, HB⟩ := hrel
    cases gk with
    | zero => exact absurd HA.out (by simp [backstepref10_Number.l0])
    | succ k1 =>
      have H := HA.out
      clear HA
      simp only [backstepref10_Number.l0] at H
      by_cases c2 : x4_1 ≥ 0
      · rw [if_pos c2] at H
        have c2b0 : decide (0 ≤ x4_1) = true := decide_eq_true c2
        clear c2
        obtain ⟨ji3, hji3⟩ : ∃ j_ : Int, (wrap64 (8 * x4_1)) = j_ := ⟨_, rfl⟩
        replace H : (if 0 ≤ (ji3) then (if x3_1.length < 140737488355328 then (backstepref10_Number.l0 k1 a0 (x3_1 ++ [(shr .u64 (IntKind.u64.wrap (a0)) (ji3)) % 256]) (wrap64 (x4_1 - 1))) else (none)) else (none)) = some r := by first | (rw [hji3] at H; exact H) | (simp only [hji3] at H ⊢; exact H)
        have hji3w : (IntKind.i64.wrap (8 * x4_1)) = ji3 := (i64_w _).trans hji3
        by_cases c4 : 0 ≤ (ji3)
        · rw [if_pos c4] at H
          have c4b0 := eq_true c4
          have c4b1 : decide (0 ≤ (ji3)) = true := decide_eq_true c4
          clear c4
          obtain ⟨ji5, hji5⟩ : ∃ j_ : Int, (shr .u64 (IntKind.u64.wrap (a0)) (ji3)) = j_ := ⟨_, rfl⟩
          replace H : (if x3_1.length < 140737488355328 then (backstepref10_Number.l0 k1 a0 (x3_1 ++ [(ji5) % 256]) (wrap64 (x4_1 - 1))) else (none)) = some r := by first | (rw [hji5] at H; exact H) | (simp only [hji5] at H ⊢; exact H)
          have hji5_ : ((IntKind.u64.wrap (a0)) / 2 ^ min (ji3).toNat 64) = ji5 := hji5
          have hji5z : (ji3) ≤ 64 → ((IntKind.u64.wrap (a0)) / 2 ^ (ji3).toNat) = ji5 := shr_small hji5
          by_cases c6 : x3_1.length < 140737488355328
          · rw [if_pos c6] at H
            have LMc6 := Aside0.mk c6
            clear c6
            obtain ⟨y411, hy411⟩ : ∃ y_ : List Int, y_ = (x3_1 ++ [(ji5) % 256]) := ⟨_, rfl⟩
            replace H : (backstepref10_Number.l0 k1 a0 y411 (wrap64 (x4_1 - 1))) = some r := by first | (rw [hy411]; with_reducible exact H) | (have H2_ := (Option.bind_some _ _).symm.trans H; rw [hy411]; with_reducible exact H2_) | (have H2_ := (Option.bind_some _ _).symm.trans H; with_reducible exact H2_) | with_reducible exact H | (rw [hy411]; exact H) | exact H
            have Ny411 := Aside0.mk hy411
            clear hy411
            have H' := Aside0.mk H
            clear H
            go_wp2_with (first | ((with_reducible refine gate_builtin (b := .append) (xs := #[.tmp 9, .tmp 16]) rfl ?_); at_builtin; refine Kd.R_append (Kd.int .u8) (w0 := w) w.heap.size rfl (.tmp 9) (.tmp 16) 47 5 (.int .u8 0) 1 rfl Try.underlying47 info5 rfl (by decide) (by omega) u3 x3_1 ((ji5) % 256) [.int .u8 ((ji5) % 256)] (fun _ => True) (fun _ => False) rfl rfl ?aP (fun _ hk => hk.elim) ?aF ?aO ?aB ?aS ?aL ?_; (case aP => exact rfl); (case aB => exact (by repeat (first | (with_reducible first | exact HB.out | apply below_alloc | apply pw_below_drewN | apply below_drew1) | exact HB.out))); (case aF => exact (fun _ _ => trivial)); (case aO => exact (by (with_reducible repeat (first | apply Kd.R_alloc | apply Kd.R_drewN | apply Kd.R_drew)); exact HO_3.out)); (case aS => exact (below_size (by repeat (first | (with_reducible first | exact HB.out | apply below_alloc | apply pw_below_drewN | apply below_drew1) | exact HB.out)))); (case aL => have := LMc6.out; omega); intro v412 w7 ho hb hg hat; rw [← Ny411.out] at ho; have n0_ := Aside0.mk (hb); have n1_ := Aside0.mk (ho); clear HB; clear HO_3; have HB := n0_; have HO413 := n1_; clear n0_ n1_; clear ho hb hg hat))
            go_roundg k1
            case measure => have := HK1.out; omega
            case rel => exact ⟨(y411), (wrap64 (x4_1 - 1)), (by first | rfl | (simp; done) | (simp [*]; done)), H', ⟨by have := HK1.out; omega⟩, ⟨by (with_reducible repeat (first | apply Kd.R_alloc | apply Kd.R_drewN | apply Kd.R_drew)); exact HO413.out⟩, ⟨by repeat (first | (with_reducible first | exact HB.out | apply below_alloc | apply pw_below_drewN | apply below_drew1) | exact HB.out)⟩⟩
          · rw [if_neg c6] at H
            exact absurd H (by simp)
        · rw [if_neg c4] at H
          exact absurd H (by simp)
      · rw [if_neg c2] at H
        have c2b0 : decide (0 ≤ x4_1) = false := decide_eq_false c2
        clear c2
        obtain rfl := Option.some.inj H
        go_wp2
        go_ret
        exact ⟨_, by first | rfl | (simp [errW_none, errW_some] <;> rfl) | (simp [*, errW_none, errW_some] <;> rfl), by (with_reducible repeat (first | apply Kd.R_alloc | apply Kd.R_drewN | apply Kd.R_drew)); exact HO_3.out, by repeat (first | (with_reducible first | exact HB.out | apply below_alloc | apply pw_below_drewN | apply below_drew1) | exact HB.out)⟩

end Go.Proofs.Ytjphfhmkpknfaaa.PAll
