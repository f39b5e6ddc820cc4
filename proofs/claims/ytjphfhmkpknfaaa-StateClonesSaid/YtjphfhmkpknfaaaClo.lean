/- backsteplaw10.StateClones: a clone is equal to its original, and stores into it leave the original as it was. -/
import Derived.Test.YtjphfhmkpknfaaaSto
import Derived.Test.YtjphfhmkpknfaaaPlainS
import Derived.Test.YtjphfhmkpknfaaaPAllx17
import Derived.Test.YtjphfhmkpknfaaaPAllx18
import Derived.Deep.CutRange
set_option linter.unusedVariables false
set_option linter.unusedSimpArgs false
namespace Go.Proofs.Ytjphfhmkpknfaaa.PAll
open Go.RowKit Go.Proofs.YtjphfhmkpknfaaaW.PrintWords Go.Proofs.YtjphfhmkpknfaaaW.PrintLast Go.Proofs.YtjphfhmkpknfaaaW.PrintMore
attribute [local go_sem] max2_int min2_int max_two min_two max_three min_three max_four min_four

theorem clone_l0 (l : List (List Int)) (hl : l.length ≤ 1000) (hr : ∀ x ∈ l, x.length ≤ 5000) (p q : List Int) : ∀ (r i : Nat) (acc : List (List Int)), r + i = l.length → acc.length = i → state_Clone.l0 (r + 1) l (l.length : Int) (i : Int) acc p q = some (acc ++ l.drop i, p, q)
  | 0, i, acc, h, ha => by
    unfold state_Clone.l0
    rw [if_neg (by omega), List.drop_eq_nil_of_le (by omega)]; simp
  | r + 1, i, acc, h, ha => by
    have hi : i < l.length := by omega
    have ed : l.drop i = l[i] :: l.drop (i + 1) := List.drop_eq_getElem_cons hi
    have hm := hr l[i] (List.getElem_mem hi)
    have ih := clone_l0 l hl hr p q r (i + 1) (acc ++ [l[i]]) (by omega) (by simp; omega)
    have hs : slices_Clone_int_int.f l[i] = some l[i] := by unfold slices_Clone_int_int.f; rw [if_pos (by omega)]
    rw [ed]
    unfold state_Clone.l0
    rw [if_pos (by omega), if_pos (by omega), if_pos (by omega), PureS.rdL_of hi, hs, Option.bind_some, if_pos (by omega), PureS.next_i (by omega), ih, List.append_assoc]; rfl
theorem clone_f (l : List (List Int)) (hl : l.length ≤ 1000) (hr : ∀ x ∈ l, x.length ≤ 5000) (p q : List Int) (hp : p.length ≤ 5000) (hq : q.length ≤ 5000) : state_Clone.f (l.length + 1) l p q = some (l, p, q) := by
  unfold state_Clone.f
  have h1 : slices_Clone_int_int.f p = some p := by unfold slices_Clone_int_int.f; rw [if_pos (by omega)]
  have h2 : slices_Clone_int_int.f q = some q := by unfold slices_Clone_int_int.f; rw [if_pos (by omega)]
  rw [h1, Option.bind_some, h2, Option.bind_some]
  exact clone_l0 l hl hr p q l.length 0 [] (by omega) rfl
theorem refclone_l0 (l : List (List Int)) (hl : l.length ≤ 1000) (hr : ∀ x ∈ l, x.length ≤ 5000) (x y p q : List Int) : ∀ (r i : Nat) (acc : List (List Int)), r + i = l.length → acc.length = i → backstepref10_Clone.l0 (r + 1) (i : Int) l x y acc p q = some (acc ++ l.drop i, p, q)
  | 0, i, acc, h, ha => by
    unfold backstepref10_Clone.l0
    rw [if_neg (by omega), List.drop_eq_nil_of_le (by omega)]; simp
  | r + 1, i, acc, h, ha => by
    have hi : i < l.length := by omega
    have ed : l.drop i = l[i] :: l.drop (i + 1) := List.drop_eq_getElem_cons hi
    have hm := hr l[i] (List.getElem_mem hi)
    have ih := refclone_l0 l hl hr x y p q r (i + 1) (acc ++ [l[i]]) (by omega) (by simp; omega)
    rw [ed]
    unfold backstepref10_Clone.l0
    rw [if_pos (by omega), Option.bind_some, if_pos (by omega), PureS.rdL_of hi, if_pos (by simp; omega), if_pos (by omega), PureS.next_i (by omega), List.nil_append, ih, List.append_assoc]; rfl
theorem refclone_f (l : List (List Int)) (hl : l.length ≤ 1000) (hr : ∀ x ∈ l, x.length ≤ 5000) (p q : List Int) (hp : p.length ≤ 5000) (hq : q.length ≤ 5000) : backstepref10_Clone.f (l.length + 1) l p q = some (l, p, q) := by
  unfold backstepref10_Clone.f
  rw [Option.bind_some, if_pos (by simp; omega), Option.bind_some, if_pos (by simp; omega)]
  simpa using refclone_l0 l hl hr p q p q l.length 0 [] (by omega) rfl

/-- What the loops keep: the clone's rows have their form, the boxes lie as they were, all that is older is untouched. -/
def Good (w4 : World) (b1 b2 b3 : Nat) (a0 a1 a2 s0 s1 s2 v0 v1 v2 : Value) (n0 n1 n2 : Nat) (W : World) : Prop :=
  ORow W w4.heap.size v0 n0 ∧ IRow W w4.heap.size v1 n1 ∧ IRow W w4.heap.size v2 n2 ∧ BoxA W b1 a0 a1 a2 ∧ BoxA W b2 s0 s1 s2 ∧ BoxA W b3 v0 v1 v2 ∧ Below w4.heap.size w4 W
theorem Good.store {w4 : World} {b1 b2 b3 : Nat} {a0 a1 a2 s0 s1 s2 v0 v1 v2 : Value} {n0 n1 n2 : Nat} {W : World} (h : Good w4 b1 b2 b3 a0 a1 a2 s0 s1 s2 v0 v1 v2 n0 n1 n2 W) {a : Addr} (hlo : w4.heap.size ≤ a.block) (hs : a.spot = none) (ht : ∃ cur, W.heap[a.block]? = some (.cells cur 3 (0, 0))) (x : Int) :
    Good w4 b1 b2 b3 a0 a1 a2 s0 s1 s2 v0 v1 v2 n0 n1 n2 (W.setCell a (.int .i64 x)) := by
  obtain ⟨h0, h1, h2, h3, h4, h5, h6⟩ := h
  obtain ⟨cur, ht⟩ := ht
  exact ⟨h0.store a hs x ht, h1.store a hs x, h2.store a hs x, h3.store a _ ht, h4.store a _ ht, h5.store a _ ht, h6.setCell hlo _⟩

set_option maxRecDepth 100000 in
set_option maxHeartbeats 4000000 in
theorem StateClones_calls (A0 : Option Addr) (c0 : Nat) (l0 : List (List Int)) (A1 : Option Addr) (c1 : Nat) (l1 : List Int) (A2 : Option Addr) (c2 : Nat) (l2 : List Int) (by' : Int) (w : World)
    (hr0 : Kd.C (Kd.slice 3 (Kd.int .i64)) w A0 l0.length l0) (hc0 : l0.length ≤ c0) (hr1 : Kd.C (Kd.int .i64) w A1 l1.length l1) (hc1 : l1.length ≤ c1) (hr2 : Kd.C (Kd.int .i64) w A2 l2.length l2) (hc2 : l2.length ≤ c2) :
    Calls Try.prog 7 #[.agg #[.slice A0 l0.length c0, .slice A1 l1.length c1, .slice A2 l2.length c2], .int .i64 by'] w fun e w' => e = .returned (.bool true) ∧ Below w.heap.size w w' := by
  obtain ⟨K1, hK1⟩ := PureS.small_f l0 l1 l2
  have HR0 := Lib.hid hr0
  have HR1 := Lib.hid hr1
  have HR2 := Lib.hid hr2
  have HK1 := Lib.hid hK1
  clear hr0 hr1 hr2 hK1
  go_enter Try.func7, Try.ntmps7
  go_wp2_with (fail)
  refine (backsteplaw10_awake.calls 300 true _ PureS.awake_ok).mono ?_
  rintro e w1 ⟨rfl, hb1⟩
  have hba : BoxA w1 w.heap.size (.slice A0 l0.length c0) (.slice A1 l1.length c1) (.slice A2 l2.length c2) := (BoxA.new w _ _ _).below hb1 (by simp)
  have hbw : Below w.heap.size w w1 := (below_alloc (Below.refl _ _) _).trans (hb1.mono (by simp))
  have hac0 := hba.c0
  have hac1 := hba.c1
  have hac2 := hba.c2
  have HA := Lib.hid hba
  have HB := Lib.hid hbw
  clear hb1 hba hbw
  go_wp2_with (fail)
  refine (backsteplaw10_small.calls K1 A0 c0 l0 A1 c1 l1 A2 c2 l2 _ w1 (Kd.C_below HR0.out HB.out) hc0 (Kd.C_below HR1.out HB.out) hc1 (Kd.C_below HR2.out HB.out) hc2 HK1.out).mono ?_
  rintro e w2 ⟨rfl, hb2⟩
  have hba := HA.out.below hb2 HA.out.lt
  have hbw := HB.out.trans (hb2.mono HB.out.size)
  clear hac0 hac1 hac2 HA HB hb2
  have hac0 := hba.c0
  have hac1 := hba.c1
  have hac2 := hba.c2
  have HA := Lib.hid hba
  have HB := Lib.hid hbw
  clear hba hbw
  by_cases hs : PureS.smallP l0 l1 l2
  · rw [if_pos hs]
    obtain ⟨hs1, hs2, hs3, hs4⟩ := hs
    have hs4' : ∀ x ∈ l0, x.length ≤ 5000 := fun x hx => by have := hs4 x hx; omega
    have HS4 := Lib.hid hs4'
    have HS5 := Lib.hid hs4
    clear hs4 hs4'
    go_wp2_with (fail)
    refine (backstepref10_Clone.calls (l0.length + 1) A0 c0 l0 A1 c1 l1 A2 c2 l2 l0 l1 l2 w2 (Kd.C_below HR0.out HB.out) hc0 (Kd.C_below HR1.out HB.out) hc1 (Kd.C_below HR2.out HB.out) hc2 (refclone_f l0 (by omega) HS4.out l1 l2 (by omega) (by omega))).mono ?_
    rintro e w3 ⟨u0, u1, u2, rfl, hu0, hu1, hu2, hb3⟩
    obtain ⟨B0, d0, rfl, hd0, hB0⟩ := Kd.R_reads (Kd.S_R hu0)
    obtain ⟨B1, d1, rfl, hd1, hB1⟩ := Kd.R_reads hu1
    obtain ⟨B2, d2, rfl, hd2, hB2⟩ := Kd.R_reads hu2
    clear hu0 hu1 hu2
    have nB0 := Kd.C_below hB0 (below_alloc (Below.refl _ w3) (.cells #[.slice B0 l0.length d0, .slice B1 l1.length d1, .slice B2 l2.length d2] 25))
    go_upto_region 6 with (fail)
    obtain ⟨w4, hw4⟩ : ∃ w4, w4 = w3.alloc (.cells #[.slice B0 l0.length d0, .slice B1 l1.length d1, .slice B2 l2.length d2] 25) := ⟨_, rfl⟩
    rw [← hw4]
    have hb4 : Below w3.heap.size w3 w4 := by rw [hw4]; exact below_alloc (Below.refl _ _) _
    have hbz : BoxA w4 w3.heap.size (.slice B0 l0.length d0) (.slice B1 l1.length d1) (.slice B2 l2.length d2) := by rw [hw4]; exact BoxA.new w3 _ _ _
    have hba := (HA.out.below hb3 HA.out.lt).below hb4 (by have := HA.out.lt; have := hb3.size; omega)
    have hbw := (HB.out.trans (hb3.mono HB.out.size)).trans (hb4.mono (by have := HB.out.size; have := hb3.size; omega))
    have hB0 := Kd.C_below hB0 hb4
    have hB1 := Kd.C_below hB1 hb4
    have hB2 := Kd.C_below hB2 hb4
    clear hac0 hac1 hac2 HA HB hw4 hb3 nB0
    obtain ⟨z5, hz5⟩ : ∃ z5, z5 = w3.heap.size := ⟨_, rfl⟩
    rw [← hz5] at hbz ⊢
    clear hz5 hb4
    have hac0 := hba.c0
    have hac1 := hba.c1
    have hac2 := hba.c2
    have HA := Lib.hid hba
    have HB := Lib.hid hbw
    have HZ := Lib.hid hbz
    have HB0 := Lib.hid hB0
    have HB1 := Lib.hid hB1
    have HB2 := Lib.hid hB2
    clear hba hbw hbz hB0 hB1 hB2
    go_wp2_with (fail)
    refine (state_Clone.calls (l0.length + 1) A0 c0 l0 A1 c1 l1 A2 c2 l2 l0 l1 l2 w4 (Kd.C_below HR0.out HB.out) hc0 (Kd.C_below HR1.out HB.out) hc1 (Kd.C_below HR2.out HB.out) hc2 (clone_f l0 (by omega) HS4.out l1 l2 (by omega) (by omega))).mono ?_
    rintro e w5 ⟨u0, u1, u2, rfl, hu0, hu1, hu2, hb5⟩
    have o0 := ORow.of_R (Kd.S_R hu0) (fun x hx => by have := HS4.out x hx; omega)
    have o1 := IRow.of_R hu1
    have o2 := IRow.of_R hu2
    obtain ⟨C0, e0, rfl, he0, hC0⟩ := Kd.R_reads (Kd.S_R hu0)
    obtain ⟨C1, e1, rfl, he1, hC1⟩ := Kd.R_reads hu1
    obtain ⟨C2, e2, rfl, he2, hC2⟩ := Kd.R_reads hu2
    clear hu0 hu1 hu2
    go_upto_region 7 with (fail)
    obtain ⟨w6, hw6⟩ : ∃ w6, w6 = w5.alloc (.cells #[.slice C0 l0.length e0, .slice C1 l1.length e1, .slice C2 l2.length e2] 25) := ⟨_, rfl⟩
    rw [← hw6]
    have hb6 : Below w5.heap.size w5 w6 := by rw [hw6]; exact below_alloc (Below.refl _ _) _
    have hby : BoxA w6 w5.heap.size (.slice C0 l0.length e0) (.slice C1 l1.length e1) (.slice C2 l2.length e2) := by rw [hw6]; exact BoxA.new w5 _ _ _
    have hb46 : Below w4.heap.size w4 w6 := hb5.trans (hb6.mono hb5.size)
    have hba := HA.out.below hb46 HA.out.lt
    have hbz := HZ.out.below hb46 HZ.out.lt
    have hbw := HB.out.trans (hb46.mono HB.out.size)
    have HW4 := Lib.hid hb46
    have HBW4 := Lib.hid HB.out
    have hC0 := Kd.C_below hC0 hb6
    have hC1 := Kd.C_below hC1 hb6
    have hC2 := Kd.C_below hC2 hb6
    have o0 := o0.below hb6
    have o1 := o1.below hb6
    have o2 := o2.below hb6
    have hy6 : w4.heap.size ≤ w5.heap.size := hb5.size
    obtain ⟨y6, hy5⟩ : ∃ y6, y6 = w5.heap.size := ⟨_, rfl⟩
    rw [← hy5] at hby hy6 ⊢
    have hz6 := HZ.out.lt
    clear hac0 hac1 hac2 HA HB HZ hw6 hb5 hb6 hb46 hy5
    have hac0 := hba.c0
    have hac1 := hba.c1
    have hac2 := hba.c2
    have hcc0 := hby.c0
    have hcc1 := hby.c1
    have hcc2 := hby.c2
    have HA := Lib.hid hba
    have HB := Lib.hid hbw
    have HZ := Lib.hid hbz
    have HY := Lib.hid hby
    have HO0 := Lib.hid o0
    have HO1 := Lib.hid o1
    have HO2 := Lib.hid o2
    clear hba hbw hbz hby o0 o1 o2
    go_wp2_with (fail)
    refine (state_Equal.calls 2100 C0 e0 l0 C1 e1 l1 C2 e2 l2 A0 c0 l0 A1 c1 l1 A2 c2 l2 true w6 hC0 he0 hC1 he1 hC2 he2 (Kd.C_below HR0.out HB.out) hc0 (Kd.C_below HR1.out HB.out) hc1 (Kd.C_below HR2.out HB.out) hc2 ((PureS.equal_f l0 l1 l2 l0 l1 l2 (by omega) (fun x hx => by have := HS5.out x hx; omega) (by omega) (by omega)).trans (by simp [PureS.sameP]))).mono ?_
    rintro e w7 ⟨rfl, hb7⟩
    have hba := HA.out.below hb7 HA.out.lt
    have hbz := HZ.out.below hb7 HZ.out.lt
    have hby := HY.out.below hb7 HY.out.lt
    have hbw := HB.out.trans (hb7.mono HB.out.size)
    have o0 := HO0.out.below hb7
    have o1 := HO1.out.below hb7
    have o2 := HO2.out.below hb7
    clear hac0 hac1 hac2 hcc0 hcc1 hcc2 HA HB HZ HY HO0 HO1 HO2 hC0 hC1 hC2
    have hG : Good w4 w.heap.size z5 y6 (.slice A0 l0.length c0) (.slice A1 l1.length c1) (.slice A2 l2.length c2) (.slice B0 l0.length d0) (.slice B1 l1.length d1) (.slice B2 l2.length d2) (.slice C0 l0.length e0) (.slice C1 l1.length e1) (.slice C2 l2.length e2) l0.length l1.length l2.length w7 := ⟨o0, o1, o2, hba, hbz, hby, HW4.out.trans (hb7.mono HW4.out.size)⟩
    clear o0 o1 o2 hba hbz hby hb7 HW4
    have HG := Lib.hid hG
    clear hG hbw
    go_wp2_with (fail)
    go_loopg [7] l0.length (fun kq v7 wr => ∃ i : Nat, kq + i = l0.length ∧ v7 = .int .i64 i ∧ Aside0 (Good w4 w.heap.size z5 y6 (.slice A0 l0.length c0) (.slice A1 l1.length c1) (.slice A2 l2.length c2) (.slice B0 l0.length d0) (.slice B1 l1.length d1) (.slice B2 l2.length d2) (.slice C0 l0.length e0) (.slice C1 l1.length e1) (.slice C2 l2.length e2) l0.length l1.length l2.length wr))
    case atStart => exact ⟨0, rfl, rfl, ⟨HG.out⟩⟩
    case round =>
      clear HG
      obtain ⟨i, hik, rfl, HG⟩ := hrel
      have hcc := HG.out.2.2.2.2.2.1.c0
      by_cases hi : i < l0.length
      · have hi1 : decide ((i : Int) < (l0.length : Int)) = true := decide_eq_true (by omega)
        have hi2 : ¬ l0.length ≤ i := by omega
        go_wp2_with (fail)
        go_loopg [8] 1000000 (fun kq v8 wq => ∃ j : Nat, kq + j = 1000000 ∧ v8 = .int .i64 j ∧ Aside0 (Good w4 w.heap.size z5 y6 (.slice A0 l0.length c0) (.slice A1 l1.length c1) (.slice A2 l2.length c2) (.slice B0 l0.length d0) (.slice B1 l1.length d1) (.slice B2 l2.length d2) (.slice C0 l0.length e0) (.slice C1 l1.length e1) (.slice C2 l2.length e2) l0.length l1.length l2.length wq))
        case atStart => exact ⟨0, rfl, rfl, ⟨HG.out⟩⟩
        case round =>
          clear HG hcc
          obtain ⟨j, hjk, rfl, HG⟩ := hrel
          have hcc := HG.out.2.2.2.2.2.1.c0
          obtain ⟨ad, c', u, n, hv, hu, hrow, hn⟩ := HG.out.1.cell (i : Int) (by omega) (by omega)
          injection hv with hv1 hv2 hv3
          subst hv1
          clear hv2 hv3
          have hrow' := hrow
          obtain ⟨A', c'', rfl, _⟩ := hrow'
          have p1 : (0 ≤ (i : Int)) = True := eq_true (by omega)
          have p2 : ((i : Int) < (l0.length : Int)) = True := eq_true (by omega)
          simp only [Int.toNat_natCast] at hu
          have HROW := Lib.hid hrow
          clear hrow
          by_cases hj : j < n
          · have hj1 : decide ((j : Int) < (n : Int)) = true := decide_eq_true (by omega)
            have hj2 : ¬ n ≤ j := by omega
            obtain ⟨ad2, c3, x, hw, hx, hfx, hlo, hsp, hty⟩ := HROW.out.cell (j : Int) (by omega) (by omega)
            injection hw with hw1 hw2 hw3
            subst hw1
            clear hw2 hw3
            have p3 : (0 ≤ (j : Int)) = True := eq_true (by omega)
            have p4 : ((j : Int) < (n : Int)) = True := eq_true (by omega)
            simp only [Int.toNat_natCast] at hx hfx hlo hsp hty
            have HTY := Lib.hid hty
            have HSP := Lib.hid hsp
            clear hty hsp
            go_wp2_with (fail)
            go_roundg (1000000 - (j + 1))
            case measure => omega
            case rel => exact ⟨j + 1, by omega, by go_num, ⟨HG.out.store hlo HSP.out HTY.out _⟩⟩
          · have hj1 : decide ((j : Int) < (n : Int)) = false := decide_eq_false (by omega)
            have hj2 : n ≤ j := by omega
            go_wp2_with (fail)
            go_roundg (l0.length - (i + 1))
            case measure => omega
            case rel => exact ⟨i + 1, by omega, by go_num, ⟨HG.out⟩⟩
      · have hi1 : decide ((i : Int) < (l0.length : Int)) = false := decide_eq_false (by omega)
        have hi2 : l0.length ≤ i := by omega
        go_wp2_with (fail)
        go_loopg [9] l1.length (fun kq v9 wr => ∃ i : Nat, kq + i = l1.length ∧ v9 = .int .i64 i ∧ Aside0 (Good w4 w.heap.size z5 y6 (.slice A0 l0.length c0) (.slice A1 l1.length c1) (.slice A2 l2.length c2) (.slice B0 l0.length d0) (.slice B1 l1.length d1) (.slice B2 l2.length d2) (.slice C0 l0.length e0) (.slice C1 l1.length e1) (.slice C2 l2.length e2) l0.length l1.length l2.length wr))
        case atStart => exact ⟨0, rfl, rfl, ⟨HG.out⟩⟩
        case round =>
          clear HG
          obtain ⟨i, hik, rfl, HG⟩ := hrel
          have hcc := HG.out.2.2.2.2.2.1.c1
          by_cases hi : i < l1.length
          · have hi1 : decide ((i : Int) < (l1.length : Int)) = true := decide_eq_true (by omega)
            have hi2 : ¬ l1.length ≤ i := by omega
            obtain ⟨ad, c', x, hv, hx, hfx, hlo, hsp, hty⟩ := HG.out.2.1.cell (i : Int) (by omega) (by omega)
            injection hv with hv1 hv2 hv3
            subst hv1
            clear hv2 hv3
            have p1 : (0 ≤ (i : Int)) = True := eq_true (by omega)
            have p2 : ((i : Int) < (l1.length : Int)) = True := eq_true (by omega)
            simp only [Int.toNat_natCast] at hx hfx hlo hsp hty
            have HTY := Lib.hid hty
            have HSP := Lib.hid hsp
            clear hty hsp
            go_wp2_with (fail)
            go_roundg (l1.length - (i + 1))
            case measure => omega
            case rel => exact ⟨i + 1, by omega, by go_num, ⟨HG.out.store hlo HSP.out HTY.out _⟩⟩
          · have hi1 : decide ((i : Int) < (l1.length : Int)) = false := decide_eq_false (by omega)
            have hi2 : l1.length ≤ i := by omega
            go_wp2_with (fail)
            go_loopg [10] l2.length (fun kq v10 wr => ∃ i : Nat, kq + i = l2.length ∧ v10 = .int .i64 i ∧ Aside0 (Good w4 w.heap.size z5 y6 (.slice A0 l0.length c0) (.slice A1 l1.length c1) (.slice A2 l2.length c2) (.slice B0 l0.length d0) (.slice B1 l1.length d1) (.slice B2 l2.length d2) (.slice C0 l0.length e0) (.slice C1 l1.length e1) (.slice C2 l2.length e2) l0.length l1.length l2.length wr))
            case atStart => exact ⟨0, rfl, rfl, ⟨HG.out⟩⟩
            case round =>
              clear HG
              obtain ⟨i, hik, rfl, HG⟩ := hrel
              have hcc := HG.out.2.2.2.2.2.1.c2
              by_cases hi : i < l2.length
              · have hi1 : decide ((i : Int) < (l2.length : Int)) = true := decide_eq_true (by omega)
                have hi2 : ¬ l2.length ≤ i := by omega
                obtain ⟨ad, c', x, hv, hx, hfx, hlo, hsp, hty⟩ := HG.out.2.2.1.cell (i : Int) (by omega) (by omega)
                injection hv with hv1 hv2 hv3
                subst hv1
                clear hv2 hv3
                have p1 : (0 ≤ (i : Int)) = True := eq_true (by omega)
                have p2 : ((i : Int) < (l2.length : Int)) = True := eq_true (by omega)
                simp only [Int.toNat_natCast] at hx hfx hlo hsp hty
                have HTY := Lib.hid hty
                have HSP := Lib.hid hsp
                clear hty hsp
                go_wp2_with (fail)
                go_roundg (l2.length - (i + 1))
                case measure => omega
                case rel => exact ⟨i + 1, by omega, by go_num, ⟨HG.out.store hlo HSP.out HTY.out _⟩⟩
              · have hi1 : decide ((i : Int) < (l2.length : Int)) = false := decide_eq_false (by omega)
                have hi2 : l2.length ≤ i := by omega
                have hac0 := HG.out.2.2.2.1.c0
                have hac1 := HG.out.2.2.2.1.c1
                have hac2 := HG.out.2.2.2.1.c2
                have hzc0 := HG.out.2.2.2.2.1.c0
                have hzc1 := HG.out.2.2.2.2.1.c1
                have hzc2 := HG.out.2.2.2.2.1.c2
                have hb4 := HG.out.2.2.2.2.2.2
                have hbw4 := HBW4.out.trans (hb4.mono HBW4.out.size)
                go_wp2_with (fail)
                refine (backstepref10_Equal.calls 2100 A0 c0 l0 A1 c1 l1 A2 c2 l2 B0 d0 l0 B1 d1 l1 B2 d2 l2 true wr (Kd.C_below HR0.out hbw4) hc0 (Kd.C_below HR1.out hbw4) hc1 (Kd.C_below HR2.out hbw4) hc2 (Kd.C_below HB0.out hb4) hd0 (Kd.C_below HB1.out hb4) hd1 (Kd.C_below HB2.out hb4) hd2 ((PureS.refequal_f l0 l1 l2 l0 l1 l2 (by omega) (fun x hx => by have := HS5.out x hx; omega) (by omega) (by omega)).trans (by simp [PureS.sameP]))).mono ?_
                rintro e w8 ⟨rfl, hb8⟩
                go_wp2
                go_ret
                exact ⟨rfl, hbw4.trans (hb8.mono hbw4.size)⟩
  · rw [if_neg hs]
    go_wp2
    go_ret
    exact ⟨rfl, HB.out⟩
end Go.Proofs.Ytjphfhmkpknfaaa.PAll
