-- LAID BY A PROGRAM (wip/tprint.py) out of the translation. Nothing here is trusted.
import Derived.Test.YtgcdeablfoomhaaPAllx0
import Derived.Test.YtgcdeablfoomhaaPAllx2
namespace Go.Proofs.Ytgcdeablfoomhaa.PAll
open Go.RowKit Go.Proofs.YtgcdeablfoomhaaW.PrintWords Go.Proofs.YtgcdeablfoomhaaW.PrintLast Go.Proofs.YtgcdeablfoomhaaW.PrintMore
attribute [local go_sem] max2_int min2_int max_two min_two max_three min_three max_four min_four   -- for this text's walks alone
set_option linter.unusedVariables false
set_option linter.unusedSimpArgs false

/-! ### backstepref12_Fits: function 19 -/
mutual
def backstepref12_Fits.l0 : Nat → List (List Int) → Int → Int → Option (Bool)
  | 0, _, _, _ => none
  | k + 1, x3, x4, x5 => if x5 < (x3.length : Int) then (if 0 ≤ x5 then (backstepref12_Fits.l1 k x3 (wrap64 (x4 + ((rd_L4 x3 x5).length : Int))) x5 0) else (none)) else (some (decide (x4 ≤ 65536)))
def backstepref12_Fits.l1 : Nat → List (List Int) → Int → Int → Int → Option (Bool)
  | 0, _, _, _, _ => none
  | k + 1, x3, x4, x5, x6 => if 0 ≤ x5 then (if x5 < (x3.length : Int) then (if x6 < ((rd_L4 x3 x5).length : Int) then (if 0 ≤ x6 then (if (rd (rd_L4 x3 x5) x6) > 1099511627776 then (some false) else (if (rd (rd_L4 x3 x5) x6) < (-1099511627776) then (some false) else (backstepref12_Fits.l1 k x3 x4 x5 (wrap64 (x6 + 1))))) else (none)) else (backstepref12_Fits.l0 k x3 x4 (wrap64 (x5 + 1)))) else (none)) else (none)
end
def backstepref12_Fits.f (k : Nat) (l0_0 : List (List Int)) (l0_1 : List Int) (l0_2 : List Int) : Option (Bool) := (backstepref12_lists.f k l0_0 l0_1 l0_2).bind fun t122 => (backstepref12_Fits.l0 k t122 0 0)
theorem backstepref12_Fits.mono_l : ∀ k, (∀ y0 y1 y2, LeO (backstepref12_Fits.l0 k y0 y1 y2) (backstepref12_Fits.l0 (k + 1) y0 y1 y2)) ∧ (∀ y0 y1 y2 y3, LeO (backstepref12_Fits.l1 k y0 y1 y2 y3) (backstepref12_Fits.l1 (k + 1) y0 y1 y2 y3))
  | 0 => ⟨fun _ _ _ r h => by simp [backstepref12_Fits.l0] at h, fun _ _ _ _ r h => by simp [backstepref12_Fits.l1] at h⟩
  | k + 1 => by
    obtain ⟨ih0, ih1⟩ := backstepref12_Fits.mono_l k
    refine ⟨?_, ?_⟩
    · intro y0 y1 y2
      unfold backstepref12_Fits.l0
      repeat' first
      | (with_reducible exact ih0 _ _ _)
      | (with_reducible exact ih1 _ _ _ _)
      | (with_reducible exact backstepref12_lists.mono _ _ _ _)
      | (with_reducible exact LeO.refl _)
      | (with_reducible exact LeO.none _)
      | (with_reducible refine LeO.ite ?_ ?_)
      | (with_reducible refine LeO.bind ?_ (fun _ => ?_))
      | exact ih0 _ _ _
      | exact ih1 _ _ _ _
      | exact backstepref12_lists.mono _ _ _ _
      | exact LeO.none _
      | refine LeO.ite ?_ ?_
      | refine LeO.bind ?_ (fun _ => ?_)
    · intro y0 y1 y2 y3
      unfold backstepref12_Fits.l1
      repeat' first
      | (with_reducible exact ih0 _ _ _)
      | (with_reducible exact ih1 _ _ _ _)
      | (with_reducible exact backstepref12_lists.mono _ _ _ _)
      | (with_reducible exact LeO.refl _)
      | (with_reducible exact LeO.none _)
      | (with_reducible refine LeO.ite ?_ ?_)
      | (with_reducible refine LeO.bind ?_ (fun _ => ?_))
      | exact ih0 _ _ _
      | exact ih1 _ _ _ _
      | exact backstepref12_lists.mono _ _ _ _
      | exact LeO.none _
      | refine LeO.ite ?_ ?_
      | refine LeO.bind ?_ (fun _ => ?_)
theorem backstepref12_Fits.mono : ∀ a0 a1 a2 k, LeO (backstepref12_Fits.f k a0 a1 a2) (backstepref12_Fits.f (k + 1) a0 a1 a2) := by
  intro a0 a1 a2 k
  obtain ⟨ih0, ih1⟩ := backstepref12_Fits.mono_l k
  unfold backstepref12_Fits.f
  repeat' first
      | (with_reducible exact ih0 _ _ _)
      | (with_reducible exact ih1 _ _ _ _)
      | (with_reducible exact backstepref12_lists.mono _ _ _ _)
      | (with_reducible exact LeO.refl _)
      | (with_reducible exact LeO.none _)
      | (with_reducible refine LeO.ite ?_ ?_)
      | (with_reducible refine LeO.bind ?_ (fun _ => ?_))
      | exact ih0 _ _ _
      | exact ih1 _ _ _ _
      | exact backstepref12_lists.mono _ _ _ _
      | exact LeO.none _
      | refine LeO.ite ?_ ?_
      | refine LeO.bind ?_ (fun _ => ?_)
set_option maxHeartbeats 8000000 in
set_option maxRecDepth 100000 in
theorem backstepref12_Fits.calls (k : Nat) (A0_0 : Option Addr) (c0_0 : Nat) (l0_0 : List (List Int)) (A0_1 : Option Addr) (c0_1 : Nat) (l0_1 : List Int) (A0_2 : Option Addr) (c0_2 : Nat) (l0_2 : List Int) (r : Bool) (w : World) (hr0_0 : Kd.C (Kd.slice 3 (Kd.int .i64)) w A0_0 l0_0.length l0_0) (hc0_0 : l0_0.length ≤ c0_0) (hr0_1 : Kd.C (Kd.int .i64) w A0_1 l0_1.length l0_1) (hc0_1 : l0_1.length ≤ c0_1) (hr0_2 : Kd.C (Kd.int .i64) w A0_2 l0_2.length l0_2) (hc0_2 : l0_2.length ≤ c0_2) (h : backstepref12_Fits.f k l0_0 l0_1 l0_2 = some r) :
    Calls Try.prog 19 #[.agg #[.slice A0_0 l0_0.length c0_0, .slice A0_1 l0_1.length c0_1, .slice A0_2 l0_2.length c0_2]] w fun e w' => e = .returned (.bool r) ∧ Below w.heap.size w w' := by
  have hu35 := Try.underlying35
  have HR0_0 := Aside0.mk hr0_0
  have HC0_0 := Aside0.mk hc0_0
  clear hr0_0 hc0_0
  have HR0_1 := Aside0.mk hr0_1
  have HC0_1 := Aside0.mk hc0_1
  clear hr0_1 hc0_1
  have HR0_2 := Aside0.mk hr0_2
  have HC0_2 := Aside0.mk hc0_2
  clear hr0_2 hc0_2
  have HB := Aside0.mk (Below.refl w.heap.size w)
  have H : ((backstepref12_lists.f k l0_0 l0_1 l0_2).bind fun t122 => (backstepref12_Fits.l0 k t122 0 0)) = some r := h
  clear h
  replace H := Option.bind_eq_some_iff.mp H
  obtain ⟨t122, A20, H⟩ := H
  replace H : (backstepref12_Fits.l0 k t122 0 0) = some r := H
  have A2 := Aside0.mk A20
  clear A20
  have H' := Aside0.mk H
  clear H
  go_enter Try.func19, Try.ntmps19
  go_wp2_with (first | ((with_reducible refine gate_dst (N := 1) rfl ?_); refine box_event ?hg (N := 1) ?hd (cs := #[.slice A0_0 l0_0.length c0_0, .slice A0_1 l0_1.length c0_1, .slice A0_2 l0_2.length c0_2]) (t := 35) ?hr ?_; (case hd => rfl); (case hg => rfl); (case hr => first | (go_simp; done) | (go_simp; rfl)); intro gb121 hg w3 hbox hb; have n0_ := Aside0.mk (below_step (by repeat (first | (with_reducible first | exact HB.out | apply below_alloc | apply pw_below_drewN | apply below_drew1) | exact HB.out)) hb); have n1_ := Aside0.mk (hbox); have n2_ := Aside0.mk ((by rw [hg]; exact (below_size (by repeat (first | (with_reducible first | exact HB.out | apply below_alloc | apply pw_below_drewN | apply below_drew1) | exact HB.out))) : w.heap.size ≤ gb121)); have n3_ := Aside0.mk ((by rw [hg]; exact (below_size (by repeat (first | (with_reducible first | exact HB.out | apply below_alloc | apply pw_below_drewN | apply below_drew1) | exact HB.out))) : w.heap.size ≤ gb121)); clear HB; have HB := n0_; have BK121 := n1_; have GW121 := n2_; have GE121 := n3_; clear n0_ n1_ n2_ n3_; clear hb hbox hg; have hcz4_0 : w3.cell? ⟨gb121, 0, none⟩ = some (.slice A0_0 l0_0.length c0_0) := (blk_cell BK121.out 0).trans rfl; have hcz4_1 : w3.cell? ⟨gb121, 1, none⟩ = some (.slice A0_1 l0_1.length c0_1) := (blk_cell BK121.out 1).trans rfl; have hcz4_2 : w3.cell? ⟨gb121, 2, none⟩ = some (.slice A0_2 l0_2.length c0_2) := (blk_cell BK121.out 2).trans rfl; have hfz4_0 := blk_frozen BK121.out 0; have hfz4_1 := blk_frozen BK121.out 1; have hfz4_2 := blk_frozen BK121.out 2) | ((with_reducible refine gate_callee (f := 34) rfl ?_); refine goesL_ (some 8) rfl rfl Try.func34 (by kernel_rfl) rfl #[.agg #[.slice A0_0 l0_0.length c0_0, .slice A0_1 l0_1.length c0_1, .slice A0_2 l0_2.length c0_2]] rfl (by (try simp only [List.map_toArray, List.map_cons, List.map_nil]); first | done | rfl | (simp only [List.length_drop, List.length_take]; rfl)) ?_; (with_reducible refine (backstepref12_lists.calls k (fun k_ => k_ < w.heap.size) _ _ l0_0 (fun k_ => k_ < w.heap.size) _ _ l0_1 (fun k_ => k_ < w.heap.size) _ _ l0_2 t122 _ ?side1 ?side2 ?side3 A2.out).mono ?_); (case side1 => exact Kd.V_mk HC0_0.out (Kd.F_below (Kd.C_F (Kd.heap_slice 3 (Kd.heap_int .i64)) HR0_0.out) (by repeat (first | (with_reducible first | exact HB.out | apply below_alloc | apply pw_below_drewN | apply below_drew1 | refine below_set ?_ GE121.out) | exact HB.out)))); (case side2 => exact Kd.V_mk HC0_1.out (Kd.F_below (Kd.C_F (Kd.heap_int .i64) HR0_1.out) (by repeat (first | (with_reducible first | exact HB.out | apply below_alloc | apply pw_below_drewN | apply below_drew1 | refine below_set ?_ GE121.out) | exact HB.out)))); (case side3 => exact Kd.V_mk HC0_2.out (Kd.F_below (Kd.C_F (Kd.heap_int .i64) HR0_2.out) (by repeat (first | (with_reducible first | exact HB.out | apply below_alloc | apply pw_below_drewN | apply below_drew1 | refine below_set ?_ GE121.out) | exact HB.out)))); rintro e w5 ⟨v123, rfl, ho0, hb⟩; refine ⟨_, rfl, ?_⟩; have n0_ := Aside0.mk (Kd.N_lower (Kd.N_mono (ok' := fun k_ => k_ ≠ gb121) ho0 (fun k_ hk_ => Or.elim hk_ (fun hs_ => Or.elim hs_ (fun hs_ => fun e_ => Nat.not_le.2 hs_ (by rw [e_]; exact GW121.out)) (fun hs_ => Or.elim hs_ (fun hs_ => fun e_ => Nat.not_le.2 hs_ (by rw [e_]; exact GW121.out)) (fun hs_ => fun e_ => Nat.not_le.2 hs_ (by rw [e_]; exact GW121.out)))) (fun hn_ => (Kd.freshB (g := gb121) (o := .cells #[.slice A0_0 l0_0.length c0_0, .slice A0_1 l0_1.length c0_1, .slice A0_2 l0_2.length c0_2] 35 (0, 0)) (by (with_reducible repeat (first | refine blk_drewN ?_ _ | refine blk_drew ?_ | refine blk_alloc ?_ _)); exact BK121.out) k_ hn_)))) (below_size (by repeat (first | (with_reducible first | exact HB.out | apply below_alloc | apply pw_below_drewN | apply below_drew1 | refine below_set ?_ GE121.out) | exact HB.out)))); have n1_ := Aside0.mk (blk_below (g := gb121) (o := .cells #[.slice A0_0 l0_0.length c0_0, .slice A0_1 l0_1.length c0_1, .slice A0_2 l0_2.length c0_2] 35 (0, 0)) (by (with_reducible repeat (first | refine blk_drewN ?_ _ | refine blk_drew ?_ | refine blk_alloc ?_ _)); exact BK121.out) hb); have n2_ := Aside0.mk (below_step (by repeat (first | (with_reducible first | exact HB.out | apply below_alloc | apply pw_below_drewN | apply below_drew1 | refine below_set ?_ GE121.out) | exact HB.out)) hb); clear BK121; clear HB; have HO124 := n0_; have BK121 := n1_; have HB := n2_; clear n0_ n1_ n2_; (try clear hb); (try clear hb2); (try clear hk); (try clear hi); (try clear ho0)))
  go_loopg [4, 5] k (fun kq v4 v5 w' => ∃ (x4_1 : Int) (x5_1 : Int), v4 = .int .i64 x4_1 ∧ v5 = .int .i64 x5_1 ∧ Aside0 (backstepref12_Fits.l0 kq t122 x4_1 x5_1 = some r) ∧ Aside0 (kq ≤ k) ∧ Aside0 (Kd.N (Kd.slice 3 (Kd.int .i64)) 33 w' w.heap.size (fun k_ => k_ ≠ gb121) v123 t122) ∧ Aside0 (w'.heap[gb121]? = some (.cells #[(.slice A0_0 l0_0.length c0_0), (.slice A0_1 l0_1.length c0_1), (.slice A0_2 l0_2.length c0_2)] 35 (0, 0))) ∧ Aside0 (Below w.heap.size w w'))
  case atStart => exact ⟨(0), (0), (by first | rfl | (simp; done) | (simp [*]; done)), (by first | rfl | (simp; done) | (simp [*]; done)), H', ⟨Nat.le_refl _⟩, ⟨by (with_reducible repeat (first | apply Kd.N_alloc | apply Kd.N_drewN | apply Kd.N_drew)); exact HO124.out⟩, ⟨by (with_reducible repeat (first | refine blk_drewN ?_ _ | refine blk_drew ?_ | refine blk_alloc ?_ _)); exact BK121.out⟩, ⟨by repeat (first | (with_reducible first | exact HB.out | apply below_alloc | apply pw_below_drewN | apply below_drew1 | refine below_set ?_ GE121.out) | exact HB.out)⟩⟩
  case round =>
    clear H'
    try clear c1
    try clear p2
    try clear c3
    try clear hcz4_0
    try clear hcz4_1
    try clear hcz4_2
    try clear hfz4_0
    try clear hfz4_1
    try clear hfz4_2
    obtain ⟨x4_1, x5_1, rfl, rfl, HA, HK1, HO_3, BK121, HB⟩ := hrel
    cases gk with
    | zero => exact absurd HA.out (by simp [backstepref12_Fits.l0])
    | succ k1 =>
      have H := HA.out
      clear HA
      simp only [backstepref12_Fits.l0] at H
      by_cases c6 : x5_1 < (t122.length : Int)
      · rw [if_pos c6] at H
        have c6b0 : decide (x5_1 < (t122.length : Int)) = true := decide_eq_true c6
        clear c6
        by_cases c7 : 0 ≤ x5_1
        · rw [if_pos c7] at H
          have c7b0 : decide (0 ≤ x5_1) = true := decide_eq_true c7
          clear c7
          have H' := Aside0.mk H
          clear H
          obtain ⟨Ao8, co8, eo8⟩ := Kd.N_slice HO_3.out
          subst eo8
          have p125 : 0 ≤ (x5_1 : Int) := of_decide_eq_true (by first | (with_reducible assumption) | assumption)
          have q125 : x5_1 < (t122.length : Int) := of_decide_eq_true (by first | (with_reducible assumption) | assumption)
          obtain ⟨ad125, A125_0, c125_0, e125, hx125_0, hl125_0, hi125_0⟩ := at_L4 (Kd.N_reads' HO_3.out).2.2 x5_1 p125 q125
          cases e125
          obtain ⟨ce125, hce125, hMe125, hcc125⟩ := Kd.N_get HO_3.out [] x5_1 p125 (by first | exact q125 | exact of_decide_eq_true (by first | (with_reducible assumption) | assumption) | (have e_ := (Kd.N_reads' HO_3.out).1; omega))
          obtain ⟨ua125_0, uc125_0, rfl, ul125_0, ge125_0⟩ := Kd.FK_slice_open hMe125
          have hv125_0 := hcc125 0 _ rfl
          rw [Nat.add_zero, show ((Kd.slice 3 (Kd.int .i64))).sz = 1 from rfl, Nat.mul_one] at hv125_0
          replace hv125_0 := Option.some.inj (hv125_0.symm.trans hx125_0)
          injection hv125_0 with hva_ hvn_ hvc_
          rw [hva_] at ge125_0
          rw [hvc_] at ul125_0
          have HL125_0 := Aside0.mk (show Kd.V (Kd.int .i64) 3 _ w.heap.size _ _ (rd_L4 t122 x5_1) from Kd.V_mk ul125_0 ge125_0)
          clear hva_ hvn_ hvc_ ge125_0 ul125_0
          clear hcc125 hce125
          have HR125_0 := Aside0.mk hi125_0
          have HC125_0 := Aside0.mk hl125_0
          clear hi125_0 hl125_0
          replace p125 := eq_true p125
          replace q125 := eq_true q125
          go_wp2
          go_loopg [6] k1 (fun kq v6 w' => ∃ (x6_2 : Int), v6 = .int .i64 x6_2 ∧ Aside0 (backstepref12_Fits.l1 kq t122 (wrap64 (x4_1 + ((rd_L4 t122 x5_1).length : Int))) x5_1 x6_2 = some r) ∧ Aside0 (kq ≤ k1) ∧ Aside0 (Kd.N (Kd.slice 3 (Kd.int .i64)) 33 w' w.heap.size (fun k_ => k_ ≠ gb121) (.slice (some ad125) t122.length co8) t122) ∧ Aside0 (w'.heap[gb121]? = some (.cells #[(.slice A0_0 l0_0.length c0_0), (.slice A0_1 l0_1.length c0_1), (.slice A0_2 l0_2.length c0_2)] 35 (0, 0))) ∧ Aside0 (Kd.C (Kd.int .i64) w' A125_0 (rd_L4 t122 x5_1).length (rd_L4 t122 x5_1)) ∧ Aside0 (Below w.heap.size w w'))
          case atStart => exact ⟨(0), (by first | rfl | (simp; done) | (simp [*]; done)), H', ⟨Nat.le_refl _⟩, ⟨by (with_reducible repeat (first | apply Kd.N_alloc | apply Kd.N_drewN | apply Kd.N_drew)); exact HO_3.out⟩, ⟨by (with_reducible repeat (first | refine blk_drewN ?_ _ | refine blk_drew ?_ | refine blk_alloc ?_ _)); exact BK121.out⟩, ⟨by repeat (first | (with_reducible exact HR125_0.out) | (with_reducible refine Kd.C_alloc ?_ _) | (with_reducible refine Kd.C_drewN ?_ _) | (with_reducible refine Kd.C_drew ?_) | exact HR125_0.out)⟩, ⟨by repeat (first | (with_reducible first | exact HB.out | apply below_alloc | apply pw_below_drewN | apply below_drew1 | refine below_set ?_ GE121.out) | exact HB.out)⟩⟩
          case round =>
            clear H'
            try clear c1
            try clear p1
            try clear q1
            try clear hx1
            try clear p2
            try clear c3
            try clear c6
            try clear c6b0
            try clear p6
            try clear c7
            try clear c7b0
            try clear hcz4_0
            try clear hcz4_1
            try clear hcz4_2
            try clear hfz4_0
            try clear hfz4_1
            try clear hfz4_2
            try clear hx125_0
            try clear p125
            try clear p2
            try clear q125
            obtain ⟨x6_2, rfl, HA, HK2, HO_3, BK121, HR125_0, HB⟩ := hrel
            cases gk with
            | zero => exact absurd HA.out (by simp [backstepref12_Fits.l1])
            | succ k2 =>
              have H := HA.out
              clear HA
              simp only [backstepref12_Fits.l1] at H
              by_cases c9 : 0 ≤ x5_1
              · rw [if_pos c9] at H
                have c9b0 : decide (0 ≤ x5_1) = true := decide_eq_true c9
                clear c9
                by_cases c10 : x5_1 < (t122.length : Int)
                · rw [if_pos c10] at H
                  have c10b0 : decide (x5_1 < (t122.length : Int)) = true := decide_eq_true c10
                  clear c10
                  by_cases c11 : x6_2 < ((rd_L4 t122 x5_1).length : Int)
                  · rw [if_pos c11] at H
                    have c11b0 : decide (x6_2 < ((rd_L4 t122 x5_1).length : Int)) = true := decide_eq_true c11
                    clear c11
                    by_cases c12 : 0 ≤ x6_2
                    · rw [if_pos c12] at H
                      have c12b0 : decide (0 ≤ x6_2) = true := decide_eq_true c12
                      clear c12
                      by_cases c13 : (rd (rd_L4 t122 x5_1) x6_2) > 1099511627776
                      · rw [if_pos c13] at H
                        have c13b0 : decide (1099511627776 < (rd (rd_L4 t122 x5_1) x6_2)) = true := decide_eq_true c13
                        clear c13
                        obtain rfl := Option.some.inj H
                        have p126 : 0 ≤ (x5_1 : Int) := of_decide_eq_true (by first | (with_reducible assumption) | assumption)
                        have q126 : x5_1 < (t122.length : Int) := of_decide_eq_true (by first | (with_reducible assumption) | assumption)
                        obtain ⟨ad126, A126_0, c126_0, e126, hx126_0, hl126_0, hi126_0⟩ := at_L4 (Kd.N_reads' HO_3.out).2.2 x5_1 p126 q126
                        obtain rfl : ad125 = ad126 := (by injection e126)
                        obtain ⟨ce126, hce126, hMe126, hcc126⟩ := Kd.N_get HO_3.out [] x5_1 p126 (by first | exact q126 | exact of_decide_eq_true (by first | (with_reducible assumption) | assumption) | (have e_ := (Kd.N_reads' HO_3.out).1; omega))
                        obtain ⟨ua126_0, uc126_0, rfl, ul126_0, ge126_0⟩ := Kd.FK_slice_open hMe126
                        have hv126_0 := hcc126 0 _ rfl
                        rw [Nat.add_zero, show ((Kd.slice 3 (Kd.int .i64))).sz = 1 from rfl, Nat.mul_one] at hv126_0
                        replace hv126_0 := Option.some.inj (hv126_0.symm.trans hx126_0)
                        injection hv126_0 with hva_ hvn_ hvc_
                        rw [hva_] at ge126_0
                        rw [hvc_] at ul126_0
                        have HL126_0 := Aside0.mk (show Kd.V (Kd.int .i64) 3 _ w.heap.size _ _ (rd_L4 t122 x5_1) from Kd.V_mk ul126_0 ge126_0)
                        clear hva_ hvn_ hvc_ ge126_0 ul126_0
                        clear hcc126 hce126
                        have HR126_0 := Aside0.mk hi126_0
                        have HC126_0 := Aside0.mk hl126_0
                        clear hi126_0 hl126_0
                        replace p126 := eq_true p126
                        replace q126 := eq_true q126
                        have p127 : 0 ≤ (x5_1 : Int) := of_decide_eq_true (by first | (with_reducible assumption) | assumption)
                        have q127 : x5_1 < (t122.length : Int) := of_decide_eq_true (by first | (with_reducible assumption) | assumption)
                        obtain ⟨ad127, A127_0, c127_0, e127, hx127_0, hl127_0, hi127_0⟩ := at_L4 (Kd.N_reads' HO_3.out).2.2 x5_1 p127 q127
                        obtain rfl : ad125 = ad127 := (by injection e127)
                        obtain ⟨ce127, hce127, hMe127, hcc127⟩ := Kd.N_get HO_3.out [] x5_1 p127 (by first | exact q127 | exact of_decide_eq_true (by first | (with_reducible assumption) | assumption) | (have e_ := (Kd.N_reads' HO_3.out).1; omega))
                        obtain ⟨ua127_0, uc127_0, rfl, ul127_0, ge127_0⟩ := Kd.FK_slice_open hMe127
                        have hv127_0 := hcc127 0 _ rfl
                        rw [Nat.add_zero, show ((Kd.slice 3 (Kd.int .i64))).sz = 1 from rfl, Nat.mul_one] at hv127_0
                        replace hv127_0 := Option.some.inj (hv127_0.symm.trans hx127_0)
                        injection hv127_0 with hva_ hvn_ hvc_
                        rw [hva_] at ge127_0
                        rw [hvc_] at ul127_0
                        have HL127_0 := Aside0.mk (show Kd.V (Kd.int .i64) 3 _ w.heap.size _ _ (rd_L4 t122 x5_1) from Kd.V_mk ul127_0 ge127_0)
                        clear hva_ hvn_ hvc_ ge127_0 ul127_0
                        clear hcc127 hce127
                        have HR127_0 := Aside0.mk hi127_0
                        have HC127_0 := Aside0.mk hl127_0
                        clear hi127_0 hl127_0
                        replace p127 := eq_true p127
                        replace q127 := eq_true q127
                        have ea_ := Option.some.inj (hx126_0.symm.trans hx127_0)
                        injection ea_ with ea_ en_ ec_
                        subst ea_
                        subst ec_
                        clear en_
                        have p128 : 0 ≤ (x6_2 : Int) := of_decide_eq_true (by first | (with_reducible assumption) | assumption)
                        have q128 : x6_2 < ((rd_L4 t122 x5_1).length : Int) := of_decide_eq_true (by first | (with_reducible assumption) | assumption)
                        obtain ⟨ad128, e128, hx128_0⟩ := Kd.at_int (by repeat (first | (with_reducible exact HR127_0.out) | (with_reducible refine Kd.C_alloc ?_ _) | (with_reducible refine Kd.C_drewN ?_ _) | (with_reducible refine Kd.C_drew ?_) | exact HR127_0.out)) x6_2 p128 q128
                        cases e128
                        replace p128 := eq_true p128
                        replace q128 := eq_true q128
                        go_wp2
                        go_ret
                        exact ⟨by first | rfl | (simp [errW_none, errW_some] <;> rfl) | (simp [*, errW_none, errW_some] <;> rfl), by repeat (first | (with_reducible first | exact HB.out | apply below_alloc | apply pw_below_drewN | apply below_drew1 | refine below_set ?_ GE121.out) | exact HB.out)⟩
                      · rw [if_neg c13] at H
                        have c13b0 : decide (1099511627776 < (rd (rd_L4 t122 x5_1) x6_2)) = false := decide_eq_false c13
                        clear c13
                        by_cases c14 : (rd (rd_L4 t122 x5_1) x6_2) < (-1099511627776)
                        · rw [if_pos c14] at H
                          have c14b0 : decide ((rd (rd_L4 t122 x5_1) x6_2) < (-1099511627776)) = true := decide_eq_true c14
                          clear c14
                          obtain rfl := Option.some.inj H
                          have p126 : 0 ≤ (x5_1 : Int) := of_decide_eq_true (by first | (with_reducible assumption) | assumption)
                          have q126 : x5_1 < (t122.length : Int) := of_decide_eq_true (by first | (with_reducible assumption) | assumption)
                          obtain ⟨ad126, A126_0, c126_0, e126, hx126_0, hl126_0, hi126_0⟩ := at_L4 (Kd.N_reads' HO_3.out).2.2 x5_1 p126 q126
                          obtain rfl : ad125 = ad126 := (by injection e126)
                          obtain ⟨ce126, hce126, hMe126, hcc126⟩ := Kd.N_get HO_3.out [] x5_1 p126 (by first | exact q126 | exact of_decide_eq_true (by first | (with_reducible assumption) | assumption) | (have e_ := (Kd.N_reads' HO_3.out).1; omega))
                          obtain ⟨ua126_0, uc126_0, rfl, ul126_0, ge126_0⟩ := Kd.FK_slice_open hMe126
                          have hv126_0 := hcc126 0 _ rfl
                          rw [Nat.add_zero, show ((Kd.slice 3 (Kd.int .i64))).sz = 1 from rfl, Nat.mul_one] at hv126_0
                          replace hv126_0 := Option.some.inj (hv126_0.symm.trans hx126_0)
                          injection hv126_0 with hva_ hvn_ hvc_
                          rw [hva_] at ge126_0
                          rw [hvc_] at ul126_0
                          have HL126_0 := Aside0.mk (show Kd.V (Kd.int .i64) 3 _ w.heap.size _ _ (rd_L4 t122 x5_1) from Kd.V_mk ul126_0 ge126_0)
                          clear hva_ hvn_ hvc_ ge126_0 ul126_0
                          clear hcc126 hce126
                          have HR126_0 := Aside0.mk hi126_0
                          have HC126_0 := Aside0.mk hl126_0
                          clear hi126_0 hl126_0
                          replace p126 := eq_true p126
                          replace q126 := eq_true q126
                          have p127 : 0 ≤ (x5_1 : Int) := of_decide_eq_true (by first | (with_reducible assumption) | assumption)
                          have q127 : x5_1 < (t122.length : Int) := of_decide_eq_true (by first | (with_reducible assumption) | assumption)
                          obtain ⟨ad127, A127_0, c127_0, e127, hx127_0, hl127_0, hi127_0⟩ := at_L4 (Kd.N_reads' HO_3.out).2.2 x5_1 p127 q127
                          obtain rfl : ad125 = ad127 := (by injection e127)
                          obtain ⟨ce127, hce127, hMe127, hcc127⟩ := Kd.N_get HO_3.out [] x5_1 p127 (by first | exact q127 | exact of_decide_eq_true (by first | (with_reducible assumption) | assumption) | (have e_ := (Kd.N_reads' HO_3.out).1; omega))
                          obtain ⟨ua127_0, uc127_0, rfl, ul127_0, ge127_0⟩ := Kd.FK_slice_open hMe127
                          have hv127_0 := hcc127 0 _ rfl
                          rw [Nat.add_zero, show ((Kd.slice 3 (Kd.int .i64))).sz = 1 from rfl, Nat.mul_one] at hv127_0
                          replace hv127_0 := Option.some.inj (hv127_0.symm.trans hx127_0)
                          injection hv127_0 with hva_ hvn_ hvc_
                          rw [hva_] at ge127_0
                          rw [hvc_] at ul127_0
                          have HL127_0 := Aside0.mk (show Kd.V (Kd.int .i64) 3 _ w.heap.size _ _ (rd_L4 t122 x5_1) from Kd.V_mk ul127_0 ge127_0)
                          clear hva_ hvn_ hvc_ ge127_0 ul127_0
                          clear hcc127 hce127
                          have HR127_0 := Aside0.mk hi127_0
                          have HC127_0 := Aside0.mk hl127_0
                          clear hi127_0 hl127_0
                          replace p127 := eq_true p127
                          replace q127 := eq_true q127
                          have ea_ := Option.some.inj (hx126_0.symm.trans hx127_0)
                          injection ea_ with ea_ en_ ec_
                          subst ea_
                          subst ec_
                          clear en_
                          have p128 : 0 ≤ (x6_2 : Int) := of_decide_eq_true (by first | (with_reducible assumption) | assumption)
                          have q128 : x6_2 < ((rd_L4 t122 x5_1).length : Int) := of_decide_eq_true (by first | (with_reducible assumption) | assumption)
                          obtain ⟨ad128, e128, hx128_0⟩ := Kd.at_int (by repeat (first | (with_reducible exact HR127_0.out) | (with_reducible refine Kd.C_alloc ?_ _) | (with_reducible refine Kd.C_drewN ?_ _) | (with_reducible refine Kd.C_drew ?_) | exact HR127_0.out)) x6_2 p128 q128
                          cases e128
                          replace p128 := eq_true p128
                          replace q128 := eq_true q128
                          have p129 : 0 ≤ (x5_1 : Int) := of_decide_eq_true (by first | (with_reducible assumption) | assumption)
                          have q129 : x5_1 < (t122.length : Int) := of_decide_eq_true (by first | (with_reducible assumption) | assumption)
                          obtain ⟨ad129, A129_0, c129_0, e129, hx129_0, hl129_0, hi129_0⟩ := at_L4 (Kd.N_reads' HO_3.out).2.2 x5_1 p129 q129
                          obtain rfl : ad125 = ad129 := (by injection e129)
                          obtain ⟨ce129, hce129, hMe129, hcc129⟩ := Kd.N_get HO_3.out [] x5_1 p129 (by first | exact q129 | exact of_decide_eq_true (by first | (with_reducible assumption) | assumption) | (have e_ := (Kd.N_reads' HO_3.out).1; omega))
                          obtain ⟨ua129_0, uc129_0, rfl, ul129_0, ge129_0⟩ := Kd.FK_slice_open hMe129
                          have hv129_0 := hcc129 0 _ rfl
                          rw [Nat.add_zero, show ((Kd.slice 3 (Kd.int .i64))).sz = 1 from rfl, Nat.mul_one] at hv129_0
                          replace hv129_0 := Option.some.inj (hv129_0.symm.trans hx129_0)
                          injection hv129_0 with hva_ hvn_ hvc_
                          rw [hva_] at ge129_0
                          rw [hvc_] at ul129_0
                          have HL129_0 := Aside0.mk (show Kd.V (Kd.int .i64) 3 _ w.heap.size _ _ (rd_L4 t122 x5_1) from Kd.V_mk ul129_0 ge129_0)
                          clear hva_ hvn_ hvc_ ge129_0 ul129_0
                          clear hcc129 hce129
                          have HR129_0 := Aside0.mk hi129_0
                          have HC129_0 := Aside0.mk hl129_0
                          clear hi129_0 hl129_0
                          replace p129 := eq_true p129
                          replace q129 := eq_true q129
                          have ea_ := Option.some.inj (hx126_0.symm.trans hx129_0)
                          injection ea_ with ea_ en_ ec_
                          subst ea_
                          subst ec_
                          clear en_
                          have p130 : 0 ≤ (x6_2 : Int) := of_decide_eq_true (by first | (with_reducible assumption) | assumption)
                          have q130 : x6_2 < ((rd_L4 t122 x5_1).length : Int) := of_decide_eq_true (by first | (with_reducible assumption) | assumption)
                          obtain ⟨ad130, e130, hx130_0⟩ := Kd.at_int (by repeat (first | (with_reducible exact HR129_0.out) | (with_reducible refine Kd.C_alloc ?_ _) | (with_reducible refine Kd.C_drewN ?_ _) | (with_reducible refine Kd.C_drew ?_) | exact HR129_0.out)) x6_2 p130 q130
                          cases e130
                          replace p130 := eq_true p130
                          replace q130 := eq_true q130
                          go_wp2
                          go_ret
                          exact ⟨by first | rfl | (simp [errW_none, errW_some] <;> rfl) | (simp [*, errW_none, errW_some] <;> rfl), by repeat (first | (with_reducible first | exact HB.out | apply below_alloc | apply pw_below_drewN | apply below_drew1 | refine below_set ?_ GE121.out) | exact HB.out)⟩
                        · rw [if_neg c14] at H
                          have c14b0 : decide ((rd (rd_L4 t122 x5_1) x6_2) < (-1099511627776)) = false := decide_eq_false c14
                          clear c14
                          have H' := Aside0.mk H
                          clear H
                          have p126 : 0 ≤ (x5_1 : Int) := of_decide_eq_true (by first | (with_reducible assumption) | assumption)
                          have q126 : x5_1 < (t122.length : Int) := of_decide_eq_true (by first | (with_reducible assumption) | assumption)
                          obtain ⟨ad126, A126_0, c126_0, e126, hx126_0, hl126_0, hi126_0⟩ := at_L4 (Kd.N_reads' HO_3.out).2.2 x5_1 p126 q126
                          obtain rfl : ad125 = ad126 := (by injection e126)
                          obtain ⟨ce126, hce126, hMe126, hcc126⟩ := Kd.N_get HO_3.out [] x5_1 p126 (by first | exact q126 | exact of_decide_eq_true (by first | (with_reducible assumption) | assumption) | (have e_ := (Kd.N_reads' HO_3.out).1; omega))
                          obtain ⟨ua126_0, uc126_0, rfl, ul126_0, ge126_0⟩ := Kd.FK_slice_open hMe126
                          have hv126_0 := hcc126 0 _ rfl
                          rw [Nat.add_zero, show ((Kd.slice 3 (Kd.int .i64))).sz = 1 from rfl, Nat.mul_one] at hv126_0
                          replace hv126_0 := Option.some.inj (hv126_0.symm.trans hx126_0)
                          injection hv126_0 with hva_ hvn_ hvc_
                          rw [hva_] at ge126_0
                          rw [hvc_] at ul126_0
                          have HL126_0 := Aside0.mk (show Kd.V (Kd.int .i64) 3 _ w.heap.size _ _ (rd_L4 t122 x5_1) from Kd.V_mk ul126_0 ge126_0)
                          clear hva_ hvn_ hvc_ ge126_0 ul126_0
                          clear hcc126 hce126
                          have HR126_0 := Aside0.mk hi126_0
                          have HC126_0 := Aside0.mk hl126_0
                          clear hi126_0 hl126_0
                          replace p126 := eq_true p126
                          replace q126 := eq_true q126
                          have p127 : 0 ≤ (x5_1 : Int) := of_decide_eq_true (by first | (with_reducible assumption) | assumption)
                          have q127 : x5_1 < (t122.length : Int) := of_decide_eq_true (by first | (with_reducible assumption) | assumption)
                          obtain ⟨ad127, A127_0, c127_0, e127, hx127_0, hl127_0, hi127_0⟩ := at_L4 (Kd.N_reads' HO_3.out).2.2 x5_1 p127 q127
                          obtain rfl : ad125 = ad127 := (by injection e127)
                          obtain ⟨ce127, hce127, hMe127, hcc127⟩ := Kd.N_get HO_3.out [] x5_1 p127 (by first | exact q127 | exact of_decide_eq_true (by first | (with_reducible assumption) | assumption) | (have e_ := (Kd.N_reads' HO_3.out).1; omega))
                          obtain ⟨ua127_0, uc127_0, rfl, ul127_0, ge127_0⟩ := Kd.FK_slice_open hMe127
                          have hv127_0 := hcc127 0 _ rfl
                          rw [Nat.add_zero, show ((Kd.slice 3 (Kd.int .i64))).sz = 1 from rfl, Nat.mul_one] at hv127_0
                          replace hv127_0 := Option.some.inj (hv127_0.symm.trans hx127_0)
                          injection hv127_0 with hva_ hvn_ hvc_
                          rw [hva_] at ge127_0
                          rw [hvc_] at ul127_0
                          have HL127_0 := Aside0.mk (show Kd.V (Kd.int .i64) 3 _ w.heap.size _ _ (rd_L4 t122 x5_1) from Kd.V_mk ul127_0 ge127_0)
                          clear hva_ hvn_ hvc_ ge127_0 ul127_0
                          clear hcc127 hce127
                          have HR127_0 := Aside0.mk hi127_0
                          have HC127_0 := Aside0.mk hl127_0
                          clear hi127_0 hl127_0
                          replace p127 := eq_true p127
                          replace q127 := eq_true q127
                          have ea_ := Option.some.inj (hx126_0.symm.trans hx127_0)
                          injection ea_ with ea_ en_ ec_
                          subst ea_
                          subst ec_
                          clear en_
                          have p128 : 0 ≤ (x6_2 : Int) := of_decide_eq_true (by first | (with_reducible assumption) | assumption)
                          have q128 : x6_2 < ((rd_L4 t122 x5_1).length : Int) := of_decide_eq_true (by first | (with_reducible assumption) | assumption)
                          obtain ⟨ad128, e128, hx128_0⟩ := Kd.at_int (by repeat (first | (with_reducible exact HR127_0.out) | (with_reducible refine Kd.C_alloc ?_ _) | (with_reducible refine Kd.C_drewN ?_ _) | (with_reducible refine Kd.C_drew ?_) | exact HR127_0.out)) x6_2 p128 q128
                          cases e128
                          replace p128 := eq_true p128
                          replace q128 := eq_true q128
                          have p129 : 0 ≤ (x5_1 : Int) := of_decide_eq_true (by first | (with_reducible assumption) | assumption)
                          have q129 : x5_1 < (t122.length : Int) := of_decide_eq_true (by first | (with_reducible assumption) | assumption)
                          obtain ⟨ad129, A129_0, c129_0, e129, hx129_0, hl129_0, hi129_0⟩ := at_L4 (Kd.N_reads' HO_3.out).2.2 x5_1 p129 q129
                          obtain rfl : ad125 = ad129 := (by injection e129)
                          obtain ⟨ce129, hce129, hMe129, hcc129⟩ := Kd.N_get HO_3.out [] x5_1 p129 (by first | exact q129 | exact of_decide_eq_true (by first | (with_reducible assumption) | assumption) | (have e_ := (Kd.N_reads' HO_3.out).1; omega))
                          obtain ⟨ua129_0, uc129_0, rfl, ul129_0, ge129_0⟩ := Kd.FK_slice_open hMe129
                          have hv129_0 := hcc129 0 _ rfl
                          rw [Nat.add_zero, show ((Kd.slice 3 (Kd.int .i64))).sz = 1 from rfl, Nat.mul_one] at hv129_0
                          replace hv129_0 := Option.some.inj (hv129_0.symm.trans hx129_0)
                          injection hv129_0 with hva_ hvn_ hvc_
                          rw [hva_] at ge129_0
                          rw [hvc_] at ul129_0
                          have HL129_0 := Aside0.mk (show Kd.V (Kd.int .i64) 3 _ w.heap.size _ _ (rd_L4 t122 x5_1) from Kd.V_mk ul129_0 ge129_0)
                          clear hva_ hvn_ hvc_ ge129_0 ul129_0
                          clear hcc129 hce129
                          have HR129_0 := Aside0.mk hi129_0
                          have HC129_0 := Aside0.mk hl129_0
                          clear hi129_0 hl129_0
                          replace p129 := eq_true p129
                          replace q129 := eq_true q129
                          have ea_ := Option.some.inj (hx126_0.symm.trans hx129_0)
                          injection ea_ with ea_ en_ ec_
                          subst ea_
                          subst ec_
                          clear en_
                          have p130 : 0 ≤ (x6_2 : Int) := of_decide_eq_true (by first | (with_reducible assumption) | assumption)
                          have q130 : x6_2 < ((rd_L4 t122 x5_1).length : Int) := of_decide_eq_true (by first | (with_reducible assumption) | assumption)
                          obtain ⟨ad130, e130, hx130_0⟩ := Kd.at_int (by repeat (first | (with_reducible exact HR129_0.out) | (with_reducible refine Kd.C_alloc ?_ _) | (with_reducible refine Kd.C_drewN ?_ _) | (with_reducible refine Kd.C_drew ?_) | exact HR129_0.out)) x6_2 p130 q130
                          cases e130
                          replace p130 := eq_true p130
                          replace q130 := eq_true q130
                          go_wp2
                          go_roundg k2
                          case measure => have := HK1.out; have := HK2.out; omega
                          case rel => exact ⟨(wrap64 (x6_2 + 1)), (by first | rfl | (simp; done) | (simp [*]; done)), H', ⟨by have := HK1.out; have := HK2.out; omega⟩, ⟨by (with_reducible repeat (first | apply Kd.N_alloc | apply Kd.N_drewN | apply Kd.N_drew)); exact HO_3.out⟩, ⟨by (with_reducible repeat (first | refine blk_drewN ?_ _ | refine blk_drew ?_ | refine blk_alloc ?_ _)); exact BK121.out⟩, ⟨by repeat (first | (with_reducible exact HR125_0.out) | (with_reducible refine Kd.C_alloc ?_ _) | (with_reducible refine Kd.C_drewN ?_ _) | (with_reducible refine Kd.C_drew ?_) | exact HR125_0.out)⟩, ⟨by repeat (first | (with_reducible first | exact HB.out | apply below_alloc | apply pw_below_drewN | apply below_drew1 | refine below_set ?_ GE121.out) | exact HB.out)⟩⟩
                    · rw [if_neg c12] at H
                      exact absurd H (by simp)
                  · rw [if_neg c11] at H
                    have c11b0 : decide (x6_2 < ((rd_L4 t122 x5_1).length : Int)) = false := decide_eq_false c11
                    clear c11
                    have H' := Aside0.mk H
                    clear H
                    have p126 : 0 ≤ (x5_1 : Int) := of_decide_eq_true (by first | (with_reducible assumption) | assumption)
                    have q126 : x5_1 < (t122.length : Int) := of_decide_eq_true (by first | (with_reducible assumption) | assumption)
                    obtain ⟨ad126, A126_0, c126_0, e126, hx126_0, hl126_0, hi126_0⟩ := at_L4 (Kd.N_reads' HO_3.out).2.2 x5_1 p126 q126
                    obtain rfl : ad125 = ad126 := (by injection e126)
                    obtain ⟨ce126, hce126, hMe126, hcc126⟩ := Kd.N_get HO_3.out [] x5_1 p126 (by first | exact q126 | exact of_decide_eq_true (by first | (with_reducible assumption) | assumption) | (have e_ := (Kd.N_reads' HO_3.out).1; omega))
                    obtain ⟨ua126_0, uc126_0, rfl, ul126_0, ge126_0⟩ := Kd.FK_slice_open hMe126
                    have hv126_0 := hcc126 0 _ rfl
                    rw [Nat.add_zero, show ((Kd.slice 3 (Kd.int .i64))).sz = 1 from rfl, Nat.mul_one] at hv126_0
                    replace hv126_0 := Option.some.inj (hv126_0.symm.trans hx126_0)
                    injection hv126_0 with hva_ hvn_ hvc_
                    rw [hva_] at ge126_0
                    rw [hvc_] at ul126_0
                    have HL126_0 := Aside0.mk (show Kd.V (Kd.int .i64) 3 _ w.heap.size _ _ (rd_L4 t122 x5_1) from Kd.V_mk ul126_0 ge126_0)
                    clear hva_ hvn_ hvc_ ge126_0 ul126_0
                    clear hcc126 hce126
                    have HR126_0 := Aside0.mk hi126_0
                    have HC126_0 := Aside0.mk hl126_0
                    clear hi126_0 hl126_0
                    replace p126 := eq_true p126
                    replace q126 := eq_true q126
                    go_wp2
                    go_roundg k2
                    case measure => have := HK1.out; have := HK2.out; omega
                    case rel => exact ⟨((wrap64 (x4_1 + ((rd_L4 t122 x5_1).length : Int)))), (wrap64 (x5_1 + 1)), (by first | rfl | (simp; done) | (simp [*]; done)), (by first | rfl | (simp; done) | (simp [*]; done)), H', ⟨by have := HK1.out; have := HK2.out; omega⟩, ⟨by (with_reducible repeat (first | apply Kd.N_alloc | apply Kd.N_drewN | apply Kd.N_drew)); exact HO_3.out⟩, ⟨by (with_reducible repeat (first | refine blk_drewN ?_ _ | refine blk_drew ?_ | refine blk_alloc ?_ _)); exact BK121.out⟩, ⟨by repeat (first | (with_reducible first | exact HB.out | apply below_alloc | apply pw_below_drewN | apply below_drew1 | refine below_set ?_ GE121.out) | exact HB.out)⟩⟩
                · rw [if_neg c10] at H
                  exact absurd H (by simp)
              · rw [if_neg c9] at H
                exact absurd H (by simp)
        · rw [if_neg c7] at H
          exact absurd H (by simp)
      · rw [if_neg c6] at H
        have c6b0 : decide (x5_1 < (t122.length : Int)) = false := decide_eq_false c6
        clear c6
        obtain rfl := Option.some.inj H
        obtain ⟨Ao15, co15, eo15⟩ := Kd.N_slice HO_3.out
        subst eo15
        go_wp2
        go_ret
        exact ⟨by first | rfl | (simp [errW_none, errW_some] <;> rfl) | (simp [*, errW_none, errW_some] <;> rfl), by repeat (first | (with_reducible first | exact HB.out | apply below_alloc | apply pw_below_drewN | apply below_drew1 | refine below_set ?_ GE121.out) | exact HB.out)⟩

end Go.Proofs.Ytgcdeablfoomhaa.PAll
