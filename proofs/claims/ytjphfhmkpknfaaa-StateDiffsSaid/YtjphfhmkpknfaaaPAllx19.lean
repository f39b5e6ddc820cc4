-- LAID BY A PROGRAM (wip/tprint.py) out of the translation. Nothing here is trusted.
import Derived.Test.YtjphfhmkpknfaaaPAllx0
namespace Go.Proofs.Ytjphfhmkpknfaaa.PAll
open Go.RowKit Go.Proofs.YtjphfhmkpknfaaaW.PrintWords Go.Proofs.YtjphfhmkpknfaaaW.PrintLast Go.Proofs.YtjphfhmkpknfaaaW.PrintMore
attribute [local go_sem] max2_int min2_int max_two min_two max_three min_three max_four min_four   -- for this text's walks alone
set_option linter.unusedVariables false
set_option linter.unusedSimpArgs false

-- NOT PRINTED: function 7 (backsteplaw10_StateClones)

/-! ### backsteplaw10_plain: function 15 -/
def backsteplaw10_plain.l0 : Nat → List (S61) → List (S34) → Int → Option ((List (S34)))
  | 0, _, _, _ => none
  | k + 1, x0, x3, x4 => if x4 < (x0.length : Int) then (if 0 ≤ x4 then (if x3.length < 4398046511104 then (backsteplaw10_plain.l0 k x0 (x3 ++ [(⟨(rd_T61 x0 x4).f0, (rd_T61 x0 x4).f1, (rd_T61 x0 x4).f2, (rd_T61 x0 x4).f3⟩ : S34)]) (wrap64 (x4 + 1))) else (none)) else (none)) else (some x3)
def backsteplaw10_plain.f (k : Nat) (l0 : List (S61)) : Option ((List (S34))) := backsteplaw10_plain.l0 k l0 ([] : List (S34)) 0
theorem backsteplaw10_plain.mono_l : ∀ k, (∀ y0 y1 y2, LeO (backsteplaw10_plain.l0 k y0 y1 y2) (backsteplaw10_plain.l0 (k + 1) y0 y1 y2))
  | 0 => fun _ _ _ r h => by simp [backsteplaw10_plain.l0] at h
  | k + 1 => by
    have ih0 := backsteplaw10_plain.mono_l k
    · intro y0 y1 y2
      unfold backsteplaw10_plain.l0
      repeat' first
      | (with_reducible exact ih0 _ _ _)
      | (with_reducible exact LeO.refl _)
      | (with_reducible exact LeO.none _)
      | (with_reducible refine LeO.ite ?_ ?_)
      | (with_reducible refine LeO.bind ?_ (fun _ => ?_))
      | exact ih0 _ _ _
      | exact LeO.none _
      | refine LeO.ite ?_ ?_
      | refine LeO.bind ?_ (fun _ => ?_)
theorem backsteplaw10_plain.mono : ∀ a0 k, LeO (backsteplaw10_plain.f k a0) (backsteplaw10_plain.f (k + 1) a0) := by
  intro a0 k
  have ih0 := backsteplaw10_plain.mono_l k
  unfold backsteplaw10_plain.f
  repeat' first
      | (with_reducible exact ih0 _ _ _)
      | (with_reducible exact LeO.refl _)
      | (with_reducible exact LeO.none _)
      | (with_reducible refine LeO.ite ?_ ?_)
      | (with_reducible refine LeO.bind ?_ (fun _ => ?_))
      | exact ih0 _ _ _
      | exact LeO.none _
      | refine LeO.ite ?_ ?_
      | refine LeO.bind ?_ (fun _ => ?_)
def backsteplaw10_plain.T5 : Bool × List (List Nat × List Nat) := (true, [([], []), ([], []), ([], []), ([1, 2], [1, 2]), ([3], [3]), ([4], [4]), ([], []), ([], []), ([6, 7], [6, 7]), ([8], [8]), ([9], [9]), ([], []), ([], []), ([11, 12], [11, 12]), ([13], [13]), ([14], [14]), ([], []), ([], []), ([16, 17], [16, 17]), ([18], [18]), ([19], [19]), ([5, 10, 15, 20], [5, 10, 15, 20]), ([21], [21]), ([0, 22], [0, 22]), ([23, 23, 0, 1, 2, 3, 4, 5, 6, 7, 8, 9, 10, 11, 12, 13, 14, 15, 16, 17, 18, 19, 20, 21, 22, 23], [0, 23])])
def backsteplaw10_plain.B5 : List Nat := [0, 0, 0, 6, 14, 30, 0, 0, 192, 448, 960, 0, 0, 6144, 14336, 30720, 0, 0, 196608, 458752, 983040, 2097150, 4194302, 8388607, 16777215]
theorem backsteplaw10_plain.tab5 : rtab .any (opsOf Try.f15 5) = backsteplaw10_plain.T5 := by kernel_rfl
theorem backsteplaw10_plain.bits5 : waitsOk backsteplaw10_plain.T5.2 backsteplaw10_plain.B5 = true := by kernel_rfl
set_option maxHeartbeats 8000000 in
set_option maxRecDepth 100000 in
theorem backsteplaw10_plain.calls (k : Nat) (A0 : Option Addr) (c0 : Nat) (l0 : List (S61)) (r : List (S34)) (w : World) (hr0 : Kd.C k61 w A0 l0.length l0) (hc0 : l0.length ≤ c0) (h : backsteplaw10_plain.f k l0 = some r) :
    Calls Try.prog 15 #[.slice A0 l0.length c0] w fun e w' => ∃ v0_ : Value, e = .returned (v0_) ∧ Kd.R k34 34 w' w.heap.size (fun _ => True) v0_ r ∧ Below w.heap.size w w' := by
  have hu34 := Try.underlying34
  have HR0 := Aside0.mk hr0
  have HC0 := Aside0.mk hc0
  clear hr0 hc0
  have HB := Aside0.mk (Below.refl w.heap.size w)
  have H : (backsteplaw10_plain.l0 k l0 ([] : List (S34)) 0) = some r := h
  clear h
  have H' := Aside0.mk H
  clear H
  go_enter Try.func15, Try.ntmps15
  go_wp2
  go_loopg [3, 4] k (fun kq v3 v4 w' => ∃ (x3_1 : List (S34)) (x4_1 : Int), v4 = .int .i64 x4_1 ∧ Aside0 (backsteplaw10_plain.l0 kq l0 x3_1 x4_1 = some r) ∧ Aside0 (kq ≤ k) ∧ Aside0 (Kd.R k34 34 w' w.heap.size (fun _ => True) v3 x3_1) ∧ Aside0 (Below w.heap.size w w'))
  case atStart => exact ⟨(([] : List (S34))), (0), (by first | rfl | (simp; done) | (simp [*]; done)), H', ⟨Nat.le_refl _⟩, ⟨by first | exact Kd.R_nil _ _ _ _ _ | exact Kd.N_nil _ _ _ _ _ | exact Kd.V_nil _ _ _ _ _ | exact Kd.Q_nil _ _ _ _ _ | exact Kd.S_nil _ _ _ _ _⟩, ⟨by repeat (first | (with_reducible first | exact HB.out | apply below_alloc | apply pw_below_drewN | apply below_drew1) | exact HB.out)⟩⟩
  case round =>
    clear H'
    try clear c1
    obtain ⟨x3_1, x4_1, rfl, HA, HK1, HO_3, HB⟩ := hrel
    cases gk with
    | zero => exact absurd HA.out (by simp [backsteplaw10_plain.l0])
    | succ k1 =>
      have H := HA.out
      clear HA
      simp only [backsteplaw10_plain.l0] at H
      by_cases c2 : x4_1 < (l0.length : Int)
      · rw [if_pos c2] at H
        have c2b0 : decide (x4_1 < (l0.length : Int)) = true := decide_eq_true c2
        clear c2
        by_cases c3 : 0 ≤ x4_1
        · rw [if_pos c3] at H
          have c3b0 : decide (0 ≤ x4_1) = true := decide_eq_true c3
          clear c3
          by_cases c4 : x3_1.length < 4398046511104
          · rw [if_pos c4] at H
            have LMc4 := Aside0.mk c4
            clear c4
            obtain ⟨y364, hy364⟩ : ∃ y_ : List (S34), y_ = (x3_1 ++ [(⟨(rd_T61 l0 x4_1).f0, (rd_T61 l0 x4_1).f1, (rd_T61 l0 x4_1).f2, (rd_T61 l0 x4_1).f3⟩ : S34)]) := ⟨_, rfl⟩
            replace H : (backsteplaw10_plain.l0 k1 l0 y364 (wrap64 (x4_1 + 1))) = some r := by first | (rw [hy364]; with_reducible exact H) | (have H2_ := (Option.bind_some _ _).symm.trans H; rw [hy364]; with_reducible exact H2_) | (have H2_ := (Option.bind_some _ _).symm.trans H; with_reducible exact H2_) | with_reducible exact H | (rw [hy364]; exact H) | exact H
            have Ny364 := Aside0.mk hy364
            clear hy364
            have H' := Aside0.mk H
            clear H
            try go_wp2
            have n0_ := Aside0.mk (Kd.R_drew HO_3.out)
            have n1_ := Aside0.mk (below_drew1 HB.out)
            clear HO_3
            clear HB
            have HO_3 := n0_
            have HB := n1_
            clear n0_ n1_
            have p360 : 0 ≤ (x4_1 : Int) := of_decide_eq_true (by first | (with_reducible assumption) | assumption)
            have q360 : x4_1 < (l0.length : Int) := of_decide_eq_true (by first | (with_reducible assumption) | assumption)
            obtain ⟨ad360, e360, hx360_0, hx360_1, hx360_2, hx360_3⟩ := at_T61 HR0.out x4_1 p360 q360
            have hw360_3 := hx360_3
            have hw360_2 := hx360_2
            have hw360_1 := hx360_1
            have hw360_0 := hx360_0
            cases e360
            replace hx360_0 := (HB.out.cell (World.block_lt_of_cell? w _ hx360_0)).trans hx360_0
            replace hx360_1 := (HB.out.cell (World.block_lt_of_cell? w _ hx360_1)).trans hx360_1
            replace hx360_2 := (HB.out.cell (World.block_lt_of_cell? w _ hx360_2)).trans hx360_2
            replace hx360_3 := (HB.out.cell (World.block_lt_of_cell? w _ hx360_3)).trans hx360_3
            replace p360 := eq_true p360
            replace q360 := eq_true q360
            have p361 : 0 ≤ (x4_1 : Int) := of_decide_eq_true (by first | (with_reducible assumption) | assumption)
            have q361 : x4_1 < (l0.length : Int) := of_decide_eq_true (by first | (with_reducible assumption) | assumption)
            obtain ⟨ad361, e361, hx361_0, hx361_1, hx361_2, hx361_3⟩ := at_T61 HR0.out x4_1 p361 q361
            have hw361_3 := hx361_3
            have hw361_2 := hx361_2
            have hw361_1 := hx361_1
            have hw361_0 := hx361_0
            obtain rfl : ad360 = ad361 := (by injection e361)
            replace hx361_0 := (HB.out.cell (World.block_lt_of_cell? w _ hx361_0)).trans hx361_0
            replace hx361_1 := (HB.out.cell (World.block_lt_of_cell? w _ hx361_1)).trans hx361_1
            replace hx361_2 := (HB.out.cell (World.block_lt_of_cell? w _ hx361_2)).trans hx361_2
            replace hx361_3 := (HB.out.cell (World.block_lt_of_cell? w _ hx361_3)).trans hx361_3
            replace p361 := eq_true p361
            replace q361 := eq_true q361
            have p362 : 0 ≤ (x4_1 : Int) := of_decide_eq_true (by first | (with_reducible assumption) | assumption)
            have q362 : x4_1 < (l0.length : Int) := of_decide_eq_true (by first | (with_reducible assumption) | assumption)
            obtain ⟨ad362, e362, hx362_0, hx362_1, hx362_2, hx362_3⟩ := at_T61 HR0.out x4_1 p362 q362
            have hw362_3 := hx362_3
            have hw362_2 := hx362_2
            have hw362_1 := hx362_1
            have hw362_0 := hx362_0
            obtain rfl : ad360 = ad362 := (by injection e362)
            replace hx362_0 := (HB.out.cell (World.block_lt_of_cell? w _ hx362_0)).trans hx362_0
            replace hx362_1 := (HB.out.cell (World.block_lt_of_cell? w _ hx362_1)).trans hx362_1
            replace hx362_2 := (HB.out.cell (World.block_lt_of_cell? w _ hx362_2)).trans hx362_2
            replace hx362_3 := (HB.out.cell (World.block_lt_of_cell? w _ hx362_3)).trans hx362_3
            replace p362 := eq_true p362
            replace q362 := eq_true q362
            have p363 : 0 ≤ (x4_1 : Int) := of_decide_eq_true (by first | (with_reducible assumption) | assumption)
            have q363 : x4_1 < (l0.length : Int) := of_decide_eq_true (by first | (with_reducible assumption) | assumption)
            obtain ⟨ad363, e363, hx363_0, hx363_1, hx363_2, hx363_3⟩ := at_T61 HR0.out x4_1 p363 q363
            have hw363_3 := hx363_3
            have hw363_2 := hx363_2
            have hw363_1 := hx363_1
            have hw363_0 := hx363_0
            obtain rfl : ad360 = ad363 := (by injection e363)
            replace hx363_0 := (HB.out.cell (World.block_lt_of_cell? w _ hx363_0)).trans hx363_0
            replace hx363_1 := (HB.out.cell (World.block_lt_of_cell? w _ hx363_1)).trans hx363_1
            replace hx363_2 := (HB.out.cell (World.block_lt_of_cell? w _ hx363_2)).trans hx363_2
            replace hx363_3 := (HB.out.cell (World.block_lt_of_cell? w _ hx363_3)).trans hx363_3
            replace p363 := eq_true p363
            replace q363 := eq_true q363
            refine start_ (n := 25) (S := fun w' => w'.cell? (ad360.add ((x4_1).toNat * 4)) = some (.int .i64 ((rd_T61 l0 x4_1).f0)) ∧ w'.cell? ⟨(ad360.add ((x4_1).toNat * 4)).block, (ad360.add ((x4_1).toNat * 4)).off + 1, none⟩ = some (.int .i64 ((rd_T61 l0 x4_1).f1)) ∧ w'.cell? ⟨(ad360.add ((x4_1).toNat * 4)).block, (ad360.add ((x4_1).toNat * 4)).off + 2, none⟩ = some (.int .i64 ((rd_T61 l0 x4_1).f2)) ∧ w'.cell? ⟨(ad360.add ((x4_1).toNat * 4)).block, (ad360.add ((x4_1).toNat * 4)).off + 3, none⟩ = some (.int .i64 ((rd_T61 l0 x4_1).f3)) ∧ w'.cell? (ad360.add ((x4_1).toNat * 4)) = some (.int .i64 ((rd_T61 l0 x4_1).f0)) ∧ w'.cell? ⟨(ad360.add ((x4_1).toNat * 4)).block, (ad360.add ((x4_1).toNat * 4)).off + 1, none⟩ = some (.int .i64 ((rd_T61 l0 x4_1).f1)) ∧ w'.cell? ⟨(ad360.add ((x4_1).toNat * 4)).block, (ad360.add ((x4_1).toNat * 4)).off + 2, none⟩ = some (.int .i64 ((rd_T61 l0 x4_1).f2)) ∧ w'.cell? ⟨(ad360.add ((x4_1).toNat * 4)).block, (ad360.add ((x4_1).toNat * 4)).off + 3, none⟩ = some (.int .i64 ((rd_T61 l0 x4_1).f3)) ∧ w'.cell? (ad360.add ((x4_1).toNat * 4)) = some (.int .i64 ((rd_T61 l0 x4_1).f0)) ∧ w'.cell? ⟨(ad360.add ((x4_1).toNat * 4)).block, (ad360.add ((x4_1).toNat * 4)).off + 1, none⟩ = some (.int .i64 ((rd_T61 l0 x4_1).f1)) ∧ w'.cell? ⟨(ad360.add ((x4_1).toNat * 4)).block, (ad360.add ((x4_1).toNat * 4)).off + 2, none⟩ = some (.int .i64 ((rd_T61 l0 x4_1).f2)) ∧ w'.cell? ⟨(ad360.add ((x4_1).toNat * 4)).block, (ad360.add ((x4_1).toNat * 4)).off + 3, none⟩ = some (.int .i64 ((rd_T61 l0 x4_1).f3)) ∧ w'.cell? (ad360.add ((x4_1).toNat * 4)) = some (.int .i64 ((rd_T61 l0 x4_1).f0)) ∧ w'.cell? ⟨(ad360.add ((x4_1).toNat * 4)).block, (ad360.add ((x4_1).toNat * 4)).off + 1, none⟩ = some (.int .i64 ((rd_T61 l0 x4_1).f1)) ∧ w'.cell? ⟨(ad360.add ((x4_1).toNat * 4)).block, (ad360.add ((x4_1).toNat * 4)).off + 2, none⟩ = some (.int .i64 ((rd_T61 l0 x4_1).f2)) ∧ w'.cell? ⟨(ad360.add ((x4_1).toNat * 4)).block, (ad360.add ((x4_1).toNat * 4)).off + 3, none⟩ = some (.int .i64 ((rd_T61 l0 x4_1).f3))) (ds := []) #[false, false, false, false, false, false, false, false, false, false, false, false, false, false, false, false, false, false, false, false, false, false, false, false, false] (by kernel_rfl) rfl rfl ⟨((HB.out.cell (World.block_lt_of_cell? w _ hw360_0)).trans hw360_0), ((HB.out.cell (World.block_lt_of_cell? w _ hw360_1)).trans hw360_1), ((HB.out.cell (World.block_lt_of_cell? w _ hw360_2)).trans hw360_2), ((HB.out.cell (World.block_lt_of_cell? w _ hw360_3)).trans hw360_3), ((HB.out.cell (World.block_lt_of_cell? w _ hw361_0)).trans hw361_0), ((HB.out.cell (World.block_lt_of_cell? w _ hw361_1)).trans hw361_1), ((HB.out.cell (World.block_lt_of_cell? w _ hw361_2)).trans hw361_2), ((HB.out.cell (World.block_lt_of_cell? w _ hw361_3)).trans hw361_3), ((HB.out.cell (World.block_lt_of_cell? w _ hw362_0)).trans hw362_0), ((HB.out.cell (World.block_lt_of_cell? w _ hw362_1)).trans hw362_1), ((HB.out.cell (World.block_lt_of_cell? w _ hw362_2)).trans hw362_2), ((HB.out.cell (World.block_lt_of_cell? w _ hw362_3)).trans hw362_3), ((HB.out.cell (World.block_lt_of_cell? w _ hw363_0)).trans hw363_0), ((HB.out.cell (World.block_lt_of_cell? w _ hw363_1)).trans hw363_1), ((HB.out.cell (World.block_lt_of_cell? w _ hw363_2)).trans hw363_2), ((HB.out.cell (World.block_lt_of_cell? w _ hw363_3)).trans hw363_3)⟩ (fun hHeld => ?_); refine with_tabW backsteplaw10_plain.tab5 backsteplaw10_plain.bits5 (fun HT_ HW_ => ?_)
            generalize wr.drew = w5 at HO_3 HB hx360_0 hx360_1 hx360_2 hx360_3 hx361_0 hx361_1 hx361_2 hx361_3 hx362_0 hx362_1 hx362_2 hx362_3 hx363_0 hx363_1 hx363_2 hx363_3 hHeld ⊢
            refine pure_ (i := 0) (N := some 11) (v := ?_) (a' := ?_) #[true, false, false, false, false, false, false, false, false, false, false, false, false, false, false, false, false, false, false, false, false, false, false, false, false] rfl rfl (any_of HT_.out (by kernel_rfl)) (fun _ _ _ h => h) (Or.inl ⟨by rfl, ?_⟩) ?_ ?_
            rotate_left
            · intro w'
              go_simp
              with_reducible rfl
            rotate_left
            · simp only [Act.put, List.setIfInBounds_toArray, List.set_cons_zero, List.set_cons_succ, i64_w, i32_w]
              rfl
            refine pure_ (i := 1) (N := some 12) (v := ?_) (a' := ?_) #[true, true, false, false, false, false, false, false, false, false, false, false, false, false, false, false, false, false, false, false, false, false, false, false, false] rfl rfl (any_of HT_.out (by kernel_rfl)) (fun _ _ _ h => h) (Or.inl ⟨by rfl, ?_⟩) ?_ ?_
            rotate_left
            · intro w'
              go_simp
              with_reducible rfl
            rotate_left
            · simp only [Act.put, List.setIfInBounds_toArray, List.set_cons_zero, List.set_cons_succ, i64_w, i32_w]
              rfl
            refine pure_ (i := 2) (N := some 13) (v := ?_) (a' := ?_) #[true, true, true, false, false, false, false, false, false, false, false, false, false, false, false, false, false, false, false, false, false, false, false, false, false] rfl rfl (any_of HT_.out (by kernel_rfl)) (fun _ _ _ h => h) (Or.inl ⟨by rfl, ?_⟩) ?_ ?_
            rotate_left
            · intro w'
              go_simp
              with_reducible rfl
            rotate_left
            · simp only [Act.put, List.setIfInBounds_toArray, List.set_cons_zero, List.set_cons_succ, i64_w, i32_w]
              rfl
            refine pure_ (i := 3) (N := some 14) (v := ?_) (a' := ?_) #[true, true, true, true, false, false, false, false, false, false, false, false, false, false, false, false, false, false, false, false, false, false, false, false, false] rfl rfl (any_of HT_.out (by kernel_rfl)) (fun _ _ _ h => h) (Or.inl ⟨by rfl, ?_⟩) ?_ ?_
            rotate_left
            · intro w'
              go_simp
              with_reducible rfl
            rotate_left
            · simp only [Act.put, List.setIfInBounds_toArray, List.set_cons_zero, List.set_cons_succ, i64_w, i32_w]
              rfl
            refine pure_ (i := 4) (N := some 15) (v := ?_) (a' := ?_) #[true, true, true, true, true, false, false, false, false, false, false, false, false, false, false, false, false, false, false, false, false, false, false, false, false] rfl rfl (any_of HT_.out (by kernel_rfl)) (fun _ _ _ h => h) (Or.inl ⟨by rfl, ?_⟩) ?_ ?_
            rotate_left
            · intro w'
              go_simp
              with_reducible rfl
            rotate_left
            · simp only [Act.put, List.setIfInBounds_toArray, List.set_cons_zero, List.set_cons_succ, i64_w, i32_w]
              rfl
            refine pure_ (i := 6) (N := some 17) (v := ?_) (a' := ?_) #[true, true, true, true, true, false, true, false, false, false, false, false, false, false, false, false, false, false, false, false, false, false, false, false, false] rfl rfl (any_of HT_.out (by kernel_rfl)) (fun _ _ _ h => h) (Or.inl ⟨by rfl, ?_⟩) ?_ ?_
            rotate_left
            · intro w'
              go_simp
              with_reducible rfl
            rotate_left
            · simp only [Act.put, List.setIfInBounds_toArray, List.set_cons_zero, List.set_cons_succ, i64_w, i32_w]
              rfl
            refine pure_ (i := 7) (N := some 18) (v := ?_) (a' := ?_) #[true, true, true, true, true, false, true, true, false, false, false, false, false, false, false, false, false, false, false, false, false, false, false, false, false] rfl rfl (any_of HT_.out (by kernel_rfl)) (fun _ _ _ h => h) (Or.inl ⟨by rfl, ?_⟩) ?_ ?_
            rotate_left
            · intro w'
              go_simp
              with_reducible rfl
            rotate_left
            · simp only [Act.put, List.setIfInBounds_toArray, List.set_cons_zero, List.set_cons_succ, i64_w, i32_w]
              rfl
            refine pure_ (i := 8) (N := some 19) (v := ?_) (a' := ?_) #[true, true, true, true, true, false, true, true, true, false, false, false, false, false, false, false, false, false, false, false, false, false, false, false, false] rfl rfl (any_of HT_.out (by kernel_rfl)) (fun _ _ _ h => h) (Or.inl ⟨by rfl, ?_⟩) ?_ ?_
            rotate_left
            · intro w'
              go_simp
              with_reducible rfl
            rotate_left
            · simp only [Act.put, List.setIfInBounds_toArray, List.set_cons_zero, List.set_cons_succ, i64_w, i32_w]
              rfl
            refine pure_ (i := 9) (N := some 20) (v := ?_) (a' := ?_) #[true, true, true, true, true, false, true, true, true, true, false, false, false, false, false, false, false, false, false, false, false, false, false, false, false] rfl rfl (any_of HT_.out (by kernel_rfl)) (fun _ _ _ h => h) (Or.inl ⟨by rfl, ?_⟩) ?_ ?_
            rotate_left
            · intro w'
              go_simp
              with_reducible rfl
            rotate_left
            · simp only [Act.put, List.setIfInBounds_toArray, List.set_cons_zero, List.set_cons_succ, i64_w, i32_w]
              rfl
            refine pure_ (i := 11) (N := some 22) (v := ?_) (a' := ?_) #[true, true, true, true, true, false, true, true, true, true, false, true, false, false, false, false, false, false, false, false, false, false, false, false, false] rfl rfl (any_of HT_.out (by kernel_rfl)) (fun _ _ _ h => h) (Or.inl ⟨by rfl, ?_⟩) ?_ ?_
            rotate_left
            · intro w'
              go_simp
              with_reducible rfl
            rotate_left
            · simp only [Act.put, List.setIfInBounds_toArray, List.set_cons_zero, List.set_cons_succ, i64_w, i32_w]
              rfl
            refine pure_ (i := 12) (N := some 23) (v := ?_) (a' := ?_) #[true, true, true, true, true, false, true, true, true, true, false, true, true, false, false, false, false, false, false, false, false, false, false, false, false] rfl rfl (any_of HT_.out (by kernel_rfl)) (fun _ _ _ h => h) (Or.inl ⟨by rfl, ?_⟩) ?_ ?_
            rotate_left
            · intro w'
              go_simp
              with_reducible rfl
            rotate_left
            · simp only [Act.put, List.setIfInBounds_toArray, List.set_cons_zero, List.set_cons_succ, i64_w, i32_w]
              rfl
            refine pure_ (i := 13) (N := some 24) (v := ?_) (a' := ?_) #[true, true, true, true, true, false, true, true, true, true, false, true, true, true, false, false, false, false, false, false, false, false, false, false, false] rfl rfl (any_of HT_.out (by kernel_rfl)) (fun _ _ _ h => h) (Or.inl ⟨by rfl, ?_⟩) ?_ ?_
            rotate_left
            · intro w'
              go_simp
              with_reducible rfl
            rotate_left
            · simp only [Act.put, List.setIfInBounds_toArray, List.set_cons_zero, List.set_cons_succ, i64_w, i32_w]
              rfl
            refine pure_ (i := 14) (N := some 25) (v := ?_) (a' := ?_) #[true, true, true, true, true, false, true, true, true, true, false, true, true, true, true, false, false, false, false, false, false, false, false, false, false] rfl rfl (any_of HT_.out (by kernel_rfl)) (fun _ _ _ h => h) (Or.inl ⟨by rfl, ?_⟩) ?_ ?_
            rotate_left
            · intro w'
              go_simp
              with_reducible rfl
            rotate_left
            · simp only [Act.put, List.setIfInBounds_toArray, List.set_cons_zero, List.set_cons_succ, i64_w, i32_w]
              rfl
            refine pure_ (i := 16) (N := some 27) (v := ?_) (a' := ?_) #[true, true, true, true, true, false, true, true, true, true, false, true, true, true, true, false, true, false, false, false, false, false, false, false, false] rfl rfl (any_of HT_.out (by kernel_rfl)) (fun _ _ _ h => h) (Or.inl ⟨by rfl, ?_⟩) ?_ ?_
            rotate_left
            · intro w'
              go_simp
              with_reducible rfl
            rotate_left
            · simp only [Act.put, List.setIfInBounds_toArray, List.set_cons_zero, List.set_cons_succ, i64_w, i32_w]
              rfl
            refine pure_ (i := 17) (N := some 28) (v := ?_) (a' := ?_) #[true, true, true, true, true, false, true, true, true, true, false, true, true, true, true, false, true, true, false, false, false, false, false, false, false] rfl rfl (any_of HT_.out (by kernel_rfl)) (fun _ _ _ h => h) (Or.inl ⟨by rfl, ?_⟩) ?_ ?_
            rotate_left
            · intro w'
              go_simp
              with_reducible rfl
            rotate_left
            · simp only [Act.put, List.setIfInBounds_toArray, List.set_cons_zero, List.set_cons_succ, i64_w, i32_w]
              rfl
            refine pure_ (i := 18) (N := some 29) (v := ?_) (a' := ?_) #[true, true, true, true, true, false, true, true, true, true, false, true, true, true, true, false, true, true, true, false, false, false, false, false, false] rfl rfl (any_of HT_.out (by kernel_rfl)) (fun _ _ _ h => h) (Or.inl ⟨by rfl, ?_⟩) ?_ ?_
            rotate_left
            · intro w'
              go_simp
              with_reducible rfl
            rotate_left
            · simp only [Act.put, List.setIfInBounds_toArray, List.set_cons_zero, List.set_cons_succ, i64_w, i32_w]
              rfl
            refine pure_ (i := 19) (N := some 30) (v := ?_) (a' := ?_) #[true, true, true, true, true, false, true, true, true, true, false, true, true, true, true, false, true, true, true, true, false, false, false, false, false] rfl rfl (any_of HT_.out (by kernel_rfl)) (fun _ _ _ h => h) (Or.inl ⟨by rfl, ?_⟩) ?_ ?_
            rotate_left
            · intro w'
              go_simp
              with_reducible rfl
            rotate_left
            · simp only [Act.put, List.setIfInBounds_toArray, List.set_cons_zero, List.set_cons_succ, i64_w, i32_w]
              rfl
            refine take_ (i := 5) (N := some 16) (v := ?_) (a' := ?_) #[true, true, true, true, true, true, true, true, true, true, false, true, true, true, true, false, true, true, true, true, false, false, false, false, false] rfl rfl (take_ofW HT_.out HW_.out (by kernel_rfl)) (fun _ _ _ h => h) (Or.inl ⟨by rfl, ?_⟩) hHeld ?_ ?_
            rotate_left
            · rintro w' ⟨s0, s1, s2, s3, s4, s5, s6, s7, s8, s9, s10, s11, s12, s13, s14, s15⟩
              go_simp
              with_reducible rfl
            rotate_left
            · simp only [Act.put, List.setIfInBounds_toArray, List.set_cons_zero, List.set_cons_succ, i64_w, i32_w]
              rfl
            refine take_ (i := 10) (N := some 21) (v := ?_) (a' := ?_) #[true, true, true, true, true, true, true, true, true, true, true, true, true, true, true, false, true, true, true, true, false, false, false, false, false] rfl rfl (take_ofW HT_.out HW_.out (by kernel_rfl)) (fun _ _ _ h => h) (Or.inl ⟨by rfl, ?_⟩) hHeld ?_ ?_
            rotate_left
            · rintro w' ⟨s0, s1, s2, s3, s4, s5, s6, s7, s8, s9, s10, s11, s12, s13, s14, s15⟩
              go_simp
              with_reducible rfl
            rotate_left
            · simp only [Act.put, List.setIfInBounds_toArray, List.set_cons_zero, List.set_cons_succ, i64_w, i32_w]
              rfl
            refine take_ (i := 15) (N := some 26) (v := ?_) (a' := ?_) #[true, true, true, true, true, true, true, true, true, true, true, true, true, true, true, true, true, true, true, true, false, false, false, false, false] rfl rfl (take_ofW HT_.out HW_.out (by kernel_rfl)) (fun _ _ _ h => h) (Or.inl ⟨by rfl, ?_⟩) hHeld ?_ ?_
            rotate_left
            · rintro w' ⟨s0, s1, s2, s3, s4, s5, s6, s7, s8, s9, s10, s11, s12, s13, s14, s15⟩
              go_simp
              with_reducible rfl
            rotate_left
            · simp only [Act.put, List.setIfInBounds_toArray, List.set_cons_zero, List.set_cons_succ, i64_w, i32_w]
              rfl
            refine take_ (i := 20) (N := some 31) (v := ?_) (a' := ?_) #[true, true, true, true, true, true, true, true, true, true, true, true, true, true, true, true, true, true, true, true, true, false, false, false, false] rfl rfl (take_ofW HT_.out HW_.out (by kernel_rfl)) (fun _ _ _ h => h) (Or.inl ⟨by rfl, ?_⟩) hHeld ?_ ?_
            rotate_left
            · rintro w' ⟨s0, s1, s2, s3, s4, s5, s6, s7, s8, s9, s10, s11, s12, s13, s14, s15⟩
              go_simp
              with_reducible rfl
            rotate_left
            · simp only [Act.put, List.setIfInBounds_toArray, List.set_cons_zero, List.set_cons_succ, i64_w, i32_w]
              rfl
            refine pure_ (i := 21) (N := some 32) (v := ?_) (a' := ?_) #[true, true, true, true, true, true, true, true, true, true, true, true, true, true, true, true, true, true, true, true, true, true, false, false, false] rfl rfl (any_of HT_.out (by kernel_rfl)) (fun _ _ _ h => h) (Or.inl ⟨by rfl, ?_⟩) ?_ ?_
            rotate_left
            · intro w'
              go_simp
              with_reducible rfl
            rotate_left
            · simp only [Act.put, List.setIfInBounds_toArray, List.set_cons_zero, List.set_cons_succ, i64_w, i32_w]
              rfl
            refine one_ (i := 22) (N := some 33) #[true, true, true, true, true, true, true, true, true, true, true, true, true, true, true, true, true, true, true, true, true, true, true, false, false] rfl rfl (one_of HT_.out (by kernel_rfl)) (by decide) (fun K hK => ?_)
            refine value_ (w1 := ?_) (v := ?_) (by rfl) rfl ?_ ?_
            rotate_left 2
            · go_simp
              constructor
              · rfl
              · rfl
            refine hK.out _ _ ⟨(World.cell?_alloc_lt _ _ _ (World.block_lt_of_cell? _ _ (((HB.out.cell (World.block_lt_of_cell? w _ hw360_0)).trans hw360_0)))).trans (((HB.out.cell (World.block_lt_of_cell? w _ hw360_0)).trans hw360_0)), (World.cell?_alloc_lt _ _ _ (World.block_lt_of_cell? _ _ (((HB.out.cell (World.block_lt_of_cell? w _ hw360_1)).trans hw360_1)))).trans (((HB.out.cell (World.block_lt_of_cell? w _ hw360_1)).trans hw360_1)), (World.cell?_alloc_lt _ _ _ (World.block_lt_of_cell? _ _ (((HB.out.cell (World.block_lt_of_cell? w _ hw360_2)).trans hw360_2)))).trans (((HB.out.cell (World.block_lt_of_cell? w _ hw360_2)).trans hw360_2)), (World.cell?_alloc_lt _ _ _ (World.block_lt_of_cell? _ _ (((HB.out.cell (World.block_lt_of_cell? w _ hw360_3)).trans hw360_3)))).trans (((HB.out.cell (World.block_lt_of_cell? w _ hw360_3)).trans hw360_3)), (World.cell?_alloc_lt _ _ _ (World.block_lt_of_cell? _ _ (((HB.out.cell (World.block_lt_of_cell? w _ hw361_0)).trans hw361_0)))).trans (((HB.out.cell (World.block_lt_of_cell? w _ hw361_0)).trans hw361_0)), (World.cell?_alloc_lt _ _ _ (World.block_lt_of_cell? _ _ (((HB.out.cell (World.block_lt_of_cell? w _ hw361_1)).trans hw361_1)))).trans (((HB.out.cell (World.block_lt_of_cell? w _ hw361_1)).trans hw361_1)), (World.cell?_alloc_lt _ _ _ (World.block_lt_of_cell? _ _ (((HB.out.cell (World.block_lt_of_cell? w _ hw361_2)).trans hw361_2)))).trans (((HB.out.cell (World.block_lt_of_cell? w _ hw361_2)).trans hw361_2)), (World.cell?_alloc_lt _ _ _ (World.block_lt_of_cell? _ _ (((HB.out.cell (World.block_lt_of_cell? w _ hw361_3)).trans hw361_3)))).trans (((HB.out.cell (World.block_lt_of_cell? w _ hw361_3)).trans hw361_3)), (World.cell?_alloc_lt _ _ _ (World.block_lt_of_cell? _ _ (((HB.out.cell (World.block_lt_of_cell? w _ hw362_0)).trans hw362_0)))).trans (((HB.out.cell (World.block_lt_of_cell? w _ hw362_0)).trans hw362_0)), (World.cell?_alloc_lt _ _ _ (World.block_lt_of_cell? _ _ (((HB.out.cell (World.block_lt_of_cell? w _ hw362_1)).trans hw362_1)))).trans (((HB.out.cell (World.block_lt_of_cell? w _ hw362_1)).trans hw362_1)), (World.cell?_alloc_lt _ _ _ (World.block_lt_of_cell? _ _ (((HB.out.cell (World.block_lt_of_cell? w _ hw362_2)).trans hw362_2)))).trans (((HB.out.cell (World.block_lt_of_cell? w _ hw362_2)).trans hw362_2)), (World.cell?_alloc_lt _ _ _ (World.block_lt_of_cell? _ _ (((HB.out.cell (World.block_lt_of_cell? w _ hw362_3)).trans hw362_3)))).trans (((HB.out.cell (World.block_lt_of_cell? w _ hw362_3)).trans hw362_3)), (World.cell?_alloc_lt _ _ _ (World.block_lt_of_cell? _ _ (((HB.out.cell (World.block_lt_of_cell? w _ hw363_0)).trans hw363_0)))).trans (((HB.out.cell (World.block_lt_of_cell? w _ hw363_0)).trans hw363_0)), (World.cell?_alloc_lt _ _ _ (World.block_lt_of_cell? _ _ (((HB.out.cell (World.block_lt_of_cell? w _ hw363_1)).trans hw363_1)))).trans (((HB.out.cell (World.block_lt_of_cell? w _ hw363_1)).trans hw363_1)), (World.cell?_alloc_lt _ _ _ (World.block_lt_of_cell? _ _ (((HB.out.cell (World.block_lt_of_cell? w _ hw363_2)).trans hw363_2)))).trans (((HB.out.cell (World.block_lt_of_cell? w _ hw363_2)).trans hw363_2)), (World.cell?_alloc_lt _ _ _ (World.block_lt_of_cell? _ _ (((HB.out.cell (World.block_lt_of_cell? w _ hw363_3)).trans hw363_3)))).trans (((HB.out.cell (World.block_lt_of_cell? w _ hw363_3)).trans hw363_3))⟩ (fun hHeld => ?_)
            clear hK K
            refine norm_ (a' := ?_) ?_ ?_
            rotate_left
            · show Act.put _ (some 33) _ = _
              simp only [Act.put, List.setIfInBounds_toArray, List.set_cons_zero, List.set_cons_succ, i64_w, i32_w]
              rfl
            refine one_ (i := 23) (N := some 34) #[true, true, true, true, true, true, true, true, true, true, true, true, true, true, true, true, true, true, true, true, true, true, true, true, false] rfl rfl (one_of HT_.out (by kernel_rfl)) (by decide) (fun K hK => ?_)
            refine Kd.R_append_step k34 (w0 := w) w.heap.size (by rfl) (.tmp 11) (.tmp 33) 28 34 (.agg #[(.int .i64 0), (.int .i64 0), (.int .i64 0), (.int .i64 0)]) 32 rfl Try.underlying28 info34 rfl (by decide) (by omega) u3 x3_1 (⟨(rd_T61 l0 x4_1).f0, (rd_T61 l0 x4_1).f1, (rd_T61 l0 x4_1).f2, (rd_T61 l0 x4_1).f3⟩ : S34) [.int .i64 ((rd_T61 l0 x4_1).f0), .int .i64 ((rd_T61 l0 x4_1).f1), .int .i64 ((rd_T61 l0 x4_1).f2), .int .i64 ((rd_T61 l0 x4_1).f3)] (fun _ => True) (fun _ => False) rfl rfl ?aP (fun _ hk => hk.elim) ?aF ?aO ?aB ?aS ?aL ?_
            (case aP => exact k34_mkM _ _ _ (⟨(rd_T61 l0 x4_1).f0, (rd_T61 l0 x4_1).f1, (rd_T61 l0 x4_1).f2, (rd_T61 l0 x4_1).f3⟩ : S34))
            (case aB => exact (by repeat (first | (with_reducible first | exact HB.out | apply below_alloc | apply pw_below_drewN | apply below_drew1) | exact HB.out)))
            (case aF => exact (fun _ _ => trivial))
            (case aO => exact (by (with_reducible repeat (first | apply Kd.R_alloc | apply Kd.R_drewN | apply Kd.R_drew)); exact HO_3.out))
            (case aS => exact (below_size (by repeat (first | (with_reducible first | exact HB.out | apply below_alloc | apply pw_below_drewN | apply below_drew1) | exact HB.out))))
            (case aL => have := LMc4.out; omega)
            intro v365 w6 ho hb hg hat
            rw [← Ny364.out] at ho
            have n0_ := Aside0.mk (hb)
            have n1_ := Aside0.mk (ho)
            clear HB
            clear HO_3
            have HB := n0_
            have HO366 := n1_
            clear n0_ n1_
            clear ho hb hg hat
            refine hK.out _ _ ⟨((HB.out.cell (World.block_lt_of_cell? w _ hw360_0)).trans hw360_0), ((HB.out.cell (World.block_lt_of_cell? w _ hw360_1)).trans hw360_1), ((HB.out.cell (World.block_lt_of_cell? w _ hw360_2)).trans hw360_2), ((HB.out.cell (World.block_lt_of_cell? w _ hw360_3)).trans hw360_3), ((HB.out.cell (World.block_lt_of_cell? w _ hw361_0)).trans hw361_0), ((HB.out.cell (World.block_lt_of_cell? w _ hw361_1)).trans hw361_1), ((HB.out.cell (World.block_lt_of_cell? w _ hw361_2)).trans hw361_2), ((HB.out.cell (World.block_lt_of_cell? w _ hw361_3)).trans hw361_3), ((HB.out.cell (World.block_lt_of_cell? w _ hw362_0)).trans hw362_0), ((HB.out.cell (World.block_lt_of_cell? w _ hw362_1)).trans hw362_1), ((HB.out.cell (World.block_lt_of_cell? w _ hw362_2)).trans hw362_2), ((HB.out.cell (World.block_lt_of_cell? w _ hw362_3)).trans hw362_3), ((HB.out.cell (World.block_lt_of_cell? w _ hw363_0)).trans hw363_0), ((HB.out.cell (World.block_lt_of_cell? w _ hw363_1)).trans hw363_1), ((HB.out.cell (World.block_lt_of_cell? w _ hw363_2)).trans hw363_2), ((HB.out.cell (World.block_lt_of_cell? w _ hw363_3)).trans hw363_3)⟩ (fun hHeld => ?_)
            clear hK K
            refine norm_ (a' := ?_) ?_ ?_
            rotate_left
            · show Act.put _ (some 34) _ = _
              simp only [Act.put, List.setIfInBounds_toArray, List.set_cons_zero, List.set_cons_succ, i64_w, i32_w]
              rfl
            refine pure_ (i := 24) (N := some 3) (v := ?_) (a' := ?_) #[true, true, true, true, true, true, true, true, true, true, true, true, true, true, true, true, true, true, true, true, true, true, true, true, true] rfl rfl (any_of HT_.out (by kernel_rfl)) (fun _ _ _ h => h) (Or.inl ⟨by rfl, ?_⟩) ?_ ?_
            rotate_left
            · intro w'
              go_simp
              with_reducible rfl
            rotate_left
            · simp only [Act.put, List.setIfInBounds_toArray, List.set_cons_zero, List.set_cons_succ, i64_w, i32_w]
              rfl
            refine done_ (done_of HT_.out (by kernel_rfl)) ?_
            try go_wp2
            go_roundg k1
            case measure => have := HK1.out; omega
            case rel => exact ⟨(y364), (wrap64 (x4_1 + 1)), (by first | rfl | (simp; done) | (simp [*]; done)), H', ⟨by have := HK1.out; omega⟩, ⟨by (with_reducible repeat (first | apply Kd.R_alloc | apply Kd.R_drewN | apply Kd.R_drew)); exact HO366.out⟩, ⟨by repeat (first | (with_reducible first | exact HB.out | apply below_alloc | apply pw_below_drewN | apply below_drew1) | exact HB.out)⟩⟩
          · rw [if_neg c4] at H
            exact absurd H (by simp)
        · rw [if_neg c3] at H
          exact absurd H (by simp)
      · rw [if_neg c2] at H
        have c2b0 : decide (x4_1 < (l0.length : Int)) = false := decide_eq_false c2
        clear c2
        obtain rfl := Option.some.inj H
        go_wp2
        go_ret
        exact ⟨_, by first | rfl | (simp [errW_none, errW_some] <;> rfl) | (simp [*, errW_none, errW_some] <;> rfl), by (with_reducible repeat (first | apply Kd.R_alloc | apply Kd.R_drewN | apply Kd.R_drew)); exact HO_3.out, by repeat (first | (with_reducible first | exact HB.out | apply below_alloc | apply pw_below_drewN | apply below_drew1) | exact HB.out)⟩

end Go.Proofs.Ytjphfhmkpknfaaa.PAll
