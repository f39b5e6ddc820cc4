/- search.slot: a list of each length; the list by element's contract. -/
import Derived.Test.YtgcdeablfoomhaaSeaEl
set_option linter.unusedVariables false
set_option linter.unusedSimpArgs false
namespace Go.Proofs.Ytgcdeablfoomhaa.PAll
open Go.RowKit Go.Proofs.YtgcdeablfoomhaaW.PrintWords Go.Proofs.YtgcdeablfoomhaaW.PrintLast Go.Proofs.YtgcdeablfoomhaaW.PrintMore
attribute [local go_sem] max_two
theorem tab33_6 : rtab .any (opsOf Try.f33 6) = (true, [([], []), ([0], [0]), ([1], [1]), ([2], [2]), ([], []), ([], []), ([5], [5]), ([6], [6]), ([7], [7]), ([], []), ([8, 9], [8, 9]), ([10], [10]), ([11], [11]), ([3, 4, 0, 1, 2, 3, 4, 5, 6, 7, 8, 9, 10, 11, 12], [3, 4]), ([13, 12, 0, 1, 2, 3, 4, 5, 6, 7, 8, 9, 10, 11, 12], [12, 13])]) := by kernel_rfl
theorem bits33_6 : waitsOk (true, [([], []), ([0], [0]), ([1], [1]), ([2], [2]), ([], []), ([], []), ([5], [5]), ([6], [6]), ([7], [7]), ([], []), ([8, 9], [8, 9]), ([10], [10]), ([11], [11]), ([3, 4, 0, 1, 2, 3, 4, 5, 6, 7, 8, 9, 10, 11, 12], [3, 4]), ([13, 12, 0, 1, 2, 3, 4, 5, 6, 7, 8, 9, 10, 11, 12], [12, 13])]).2 [0, 1, 3, 7, 0, 0, 32, 96, 224, 0, 992, 2016, 4064, 8191, 16383] = true := by decide +kernel

theorem slot_out (pre : List (List Int)) (rk : Int) (s : S62) (r : List S62) (wt : Int) :
    (slotO rk (s :: r) wt).map (fun q => pre ++ q) = (irange s.f0 s.f1).flatMap fun m => (elemO rk (lowOf r) (highOf rk r) (slotO rk r) m.toNat wt).map fun q => pre ++ (([] : List Int) ++ q.1) :: q.2 := by
  rw [slotO, List.map_flatMap]
  congr 1
  funext m
  rw [List.map_map]
  refine List.map_congr_left fun q _ => ?_
  simp
theorem nil_form {W : World} {base : Nat} {ok : Nat → Prop} {A : Option Addr} {n c : Nat} {xs : List Int} (h : Kd.R (Kd.int .i64) 3 W base ok (.slice A n c) xs) : A = none → c = 0 := by
  rintro rfl
  obtain ⟨_, inner, ho, _⟩ := h
  rcases ho.2 with ⟨he, _⟩ | ⟨g, cap, cur, he, _⟩
  · injection he
  · cases he

set_option maxRecDepth 100000 in
set_option maxHeartbeats 16000000 in
theorem slot_cons (C : Cx) (hC : C.Ok) (J Jx : (Nat → Prop) → List (List (List Int)) → World → Prop) (hJ : Abide J) (hJx : Abide Jx) (s : S62) (r : List S62) (hel : ∀ left, ElemC C J Jx r left) : SlotC C J Jx (s :: r) := by
  intro pre wt T W done hd hlen hpl hw0 hw1 hj hi
  have hlt : pre.length < C.sl.length := by rw [List.length_cons] at hlen; omega
  have hsi : C.sl[pre.length] = s := by
    have h1 := List.drop_eq_getElem_cons hlt
    rw [hd] at h1
    exact (List.cons.inj h1).1.symm
  have hdr : C.sl.drop (pre.length + 1) = r := by
    have h1 := List.drop_eq_getElem_cons hlt
    rw [hd] at h1
    exact (List.cons.inj h1).2.symm
  have hsb := hC.s s (by rw [← hsi]; exact List.getElem_mem hlt)
  rw [slot_out, List.length_cons, List.replicate_succ]
  rw [List.length_cons, List.replicate_succ] at hi
  obtain ⟨F, hF⟩ : ∃ F, F = fun m : Int => (elemO C.rk (lowOf r) (highOf C.rk r) (slotO C.rk r) m.toNat wt).map fun q => pre ++ (([] : List Int) ++ q.1) :: q.2 := ⟨_, rfl⟩
  obtain ⟨m0, hm0⟩ : ∃ m0 : Int, m0 = s.f0 := ⟨_, rfl⟩
  obtain ⟨m1, hm1⟩ : ∃ m1 : Int, m1 = s.f1 := ⟨_, rfl⟩
  rw [← hF, ← hm0, ← hm1]
  rw [← hm0, ← hm1] at hsb
  obtain ⟨rs, hrs⟩ : ∃ rs, rs = irange m0 m1 := ⟨_, rfl⟩
  have hcount : ∀ j : Nat, j < rs.length ↔ m0 + (j : Int) ≤ m1 := fun j => by rw [hrs, irange_length]; omega
  have hrl : (rs.length : Int) ≤ 1001 := by rw [hrs, irange_length]; omega
  have hget : ∀ (j : Nat) (h : j < rs.length), rs[j] = m0 + (j : Int) := fun j h => by subst hrs; exact irange_get _ _ j h
  rw [← hrs]
  have HSTP := Lib.hid (show ∀ (j : Nat), j < rs.length → m0 + (j : Int) ≤ m1 ∧ wrap64 (m0 + (j : Int) + 1) = m0 + ((j + 1 : Nat) : Int) ∧ 0 ≤ m0 + (j : Int) ∧ m0 + (j : Int) ≤ 1000 from fun j hjl => by
    have h1 := (hcount j).1 hjl
    refine ⟨by omega, ?_, by omega, by omega⟩
    rw [wrap64_of' (by omega) (by omega)]; omega)
  have HEND := Lib.hid (show ¬ m0 + (rs.length : Int) ≤ m1 from mt (hcount rs.length).2 (Nat.lt_irrefl _))
  clear hcount hrl
  obtain ⟨b0, b1, b2, b3, b4, b5⟩ := hi.c.cell
  obtain ⟨xs0, xs1⟩ := hi.c.s_ pre.length hlt
  rw [hsi, ← hm0] at xs0
  rw [hsi, ← hm1] at xs1
  have p1 : (0 ≤ (pre.length : Int)) = True := eq_true (by omega)
  have p2 : ((pre.length : Int) < (C.sl.length : Int)) = True := eq_true (by omega)
  have p3 : (pre.length < C.sl.length) = True := eq_true (by omega)
  have q1 : ((pre.length : Int) == (C.sl.length : Int)) = false := beq_eq_false_iff_ne.mpr (by omega)
  have q2 : decide ((pre.length : Int) = (C.sl.length : Int)) = false := decide_eq_false (by omega)
  have q3 : decide (pre.length = C.sl.length) = false := decide_eq_false (by omega)
  have q4 : (pre.length == C.sl.length) = false := beq_eq_false_iff_ne.mpr (by omega)
  have hlen2 : pre.length + 1 + r.length = C.sl.length := by rw [List.length_cons] at hlen; omega
  have HI := Lib.hid hi
  have HJ := Lib.hid hj
  have HPL := Lib.hid hpl
  have HD := Lib.hid hdr
  have HLEN := Lib.hid hlen2
  have HLT := Lib.hid hlt
  have HF := Lib.hid hF
  have HGET := Lib.hid hget
  have HSI := Lib.hid hsi
  have HM0 := Lib.hid hm0
  have HM1 := Lib.hid hm1
  clear hi hj hpl hdr hlen2 hlen hF hget hd hrs hsi hm0 hm1
  go_enter Try.func33, Try.ntmps33
  try go_wp2
  go_loopg [7] rs.length (fun kq v7 wr => ∃ (j : Nat) (T' : Nat → Prop), kq + j = rs.length ∧ v7 = .int .i64 (m0 + (j : Int)) ∧ Aside0 (J T' (done ++ (rs.take j).flatMap F) wr) ∧ Aside0 (Inv C T' wr (pre ++ [] :: List.replicate r.length [])))
  case atStart => exact ⟨0, T, rfl, by simp, ⟨by simpa using HJ.out⟩, ⟨HI.out⟩⟩
  case round =>
    clear HI HJ b0 b1 b2 b3 b4 b5 xs0 xs1
    obtain ⟨j, T', hkj, rfl, HJ, HI⟩ := hrel
    obtain ⟨b0, b1, b2, b3, b4, b5⟩ := HI.out.c.cell
    obtain ⟨xs0, xs1⟩ := HI.out.c.s_ pre.length HLT.out
    rw [HSI.out, ← HM0.out] at xs0
    rw [HSI.out, ← HM1.out] at xs1
    obtain ⟨Ai, ci, hrow, hR, hcc⟩ := HI.out.at_ HLT.out
    have hnf := nil_form hR
    rw [List.length_nil] at hrow
    clear hR hcc
    by_cases hjl : j < rs.length
    · obtain ⟨g1, g2, g3, g4⟩ := HSTP.out j hjl
      obtain ⟨rj, hrj⟩ : ∃ rj : Int, rj = m0 + (j : Int) := ⟨_, rfl⟩
      rw [← hrj] at g1 g2 g3 g4 ⊢
      have d1 : decide (rj ≤ m1) = true := decide_eq_true g1
      have G2 := Lib.hid g2
      have G34 := Lib.hid (And.intro g3 g4)
      have HRJ := Lib.hid hrj
      have HKJ := Lib.hid hkj
      have HJL := Lib.hid hjl
      have HNF := Lib.hid hnf
      clear g1 g2 g3 g4 hrj hkj hjl hnf
      go_upto_region 6 with (fail)
      have nb : Below wr.heap.size wr wr.drew := below_drew1 (Below.refl _ _)
      obtain ⟨wd, hwd⟩ : ∃ wd, wd = wr.drew := ⟨_, rfl⟩
      rw [← hwd] at nb
      have nHI := HI.out.below nb
      have nHJ := hJ _ _ _ _ _ HJ.out (StepT.of_below nb) (Grows.refl _ _)
      have nb4 : wd.cell? ⟨C.B, 4, none⟩ = some (.slice (some ⟨C.L, 0, none⟩) C.sl.length C.sl.length) := by rw [hwd]; exact b4
      have nrow : wd.cell? ⟨C.L, pre.length, none⟩ = some (.slice Ai 0 ci) := by rw [hwd]; exact hrow
      clear HI HJ b0 b1 b2 b3 b4 b5 xs0 xs1 hrow nb
      have HI := Lib.hid nHI
      have HJ := Lib.hid nHJ
      have HS6 := Lib.hid (And.intro nb4 nrow)
      clear nHI nHJ nb4 nrow
      refine start_ (n := 15) (S := fun w' => w'.cell? ⟨C.B, 4, none⟩ = some (.slice (some ⟨C.L, 0, none⟩) C.sl.length C.sl.length) ∧ w'.cell? ⟨C.L, pre.length, none⟩ = some (.slice Ai 0 ci)) (ds := [14]) #[false, false, false, false, false, false, false, false, false, false, false, false, false, false, false] (by kernel_rfl) rfl rfl (by rw [← hwd]; exact HS6.out) (fun hHeld => ?_); refine with_tabW tab33_6 bits33_6 (fun HT_ HW_ => ?_)
      rw [← hwd] at hHeld ⊢; clear hwd
      refine pure_ (i := 0) (N := some 42) (v := ?_) (a' := ?_) #[true, false, false, false, false, false, false, false, false, false, false, false, false, false, false] rfl rfl (any_of HT_.out (by kernel_rfl)) (fun _ _ _ h => h) (Or.inl ⟨by rfl, ?_⟩) ?_ ?_
      rotate_left
      · intro w'
        go_simp
        with_reducible rfl
      rotate_left
      · simp only [Act.put, List.setIfInBounds_toArray, List.set_cons_zero, List.set_cons_succ, i64_w, i32_w]
        rfl
      refine pure_ (i := 1) (N := some 43) (v := ?_) (a' := ?_) #[true, true, false, false, false, false, false, false, false, false, false, false, false, false, false] rfl rfl (any_of HT_.out (by kernel_rfl)) (fun _ _ _ h => h) (Or.inl ⟨by rfl, ?_⟩) ?_ ?_
      rotate_left
      · intro w'
        go_simp
        with_reducible rfl
      rotate_left
      · simp only [Act.put, List.setIfInBounds_toArray, List.set_cons_zero, List.set_cons_succ, i64_w, i32_w]
        rfl
      refine pure_ (i := 2) (N := some 44) (v := ?_) (a' := ?_) #[true, true, true, false, false, false, false, false, false, false, false, false, false, false, false] rfl rfl (any_of HT_.out (by kernel_rfl)) (fun _ _ _ h => h) (Or.inl ⟨by rfl, ?_⟩) ?_ ?_
      rotate_left
      · intro w'
        go_simp
        with_reducible rfl
      rotate_left
      · simp only [Act.put, List.setIfInBounds_toArray, List.set_cons_zero, List.set_cons_succ, i64_w, i32_w]
        rfl
      refine take_ (i := 3) (N := some 45) (v := ?_) (a' := ?_) #[true, true, true, true, false, false, false, false, false, false, false, false, false, false, false] rfl rfl (take_ofW HT_.out HW_.out (by kernel_rfl)) (fun _ _ _ h => h) (Or.inl ⟨by rfl, ?_⟩) hHeld ?_ ?_
      rotate_left
      · rintro w' ⟨s0, s1⟩
        go_simp
        with_reducible rfl
      rotate_left
      · simp only [Act.put, List.setIfInBounds_toArray, List.set_cons_zero, List.set_cons_succ, i64_w, i32_w]
        rfl
      refine pure_ (i := 4) (N := some 46) (v := ?_) (a' := ?_) #[true, true, true, true, true, false, false, false, false, false, false, false, false, false, false] rfl rfl (any_of HT_.out (by kernel_rfl)) (fun _ _ _ h => h) (Or.inl ⟨by rfl, ?_⟩) ?_ ?_
      rotate_left
      · intro w'
        go_simp
        with_reducible rfl
      rotate_left
      · simp only [Act.put, List.setIfInBounds_toArray, List.set_cons_zero, List.set_cons_succ, i64_w, i32_w]
        rfl
      refine pure_ (i := 5) (N := some 47) (v := ?_) (a' := ?_) #[true, true, true, true, true, true, false, false, false, false, false, false, false, false, false] rfl rfl (any_of HT_.out (by kernel_rfl)) (fun _ _ _ h => h) (Or.inl ⟨by rfl, ?_⟩) ?_ ?_
      rotate_left
      · intro w'
        go_simp
        with_reducible rfl
      rotate_left
      · simp only [Act.put, List.setIfInBounds_toArray, List.set_cons_zero, List.set_cons_succ, i64_w, i32_w]
        rfl
      refine pure_ (i := 6) (N := some 48) (v := ?_) (a' := ?_) #[true, true, true, true, true, true, true, false, false, false, false, false, false, false, false] rfl rfl (any_of HT_.out (by kernel_rfl)) (fun _ _ _ h => h) (Or.inl ⟨by rfl, ?_⟩) ?_ ?_
      rotate_left
      · intro w'
        go_simp
        with_reducible rfl
      rotate_left
      · simp only [Act.put, List.setIfInBounds_toArray, List.set_cons_zero, List.set_cons_succ, i64_w, i32_w]
        rfl
      refine pure_ (i := 7) (N := some 49) (v := ?_) (a' := ?_) #[true, true, true, true, true, true, true, true, false, false, false, false, false, false, false] rfl rfl (any_of HT_.out (by kernel_rfl)) (fun _ _ _ h => h) (Or.inl ⟨by rfl, ?_⟩) ?_ ?_
      rotate_left
      · intro w'
        go_simp
        with_reducible rfl
      rotate_left
      · simp only [Act.put, List.setIfInBounds_toArray, List.set_cons_zero, List.set_cons_succ, i64_w, i32_w]
        rfl
      refine take_ (i := 8) (N := some 50) (v := ?_) (a' := ?_) #[true, true, true, true, true, true, true, true, true, false, false, false, false, false, false] rfl rfl (take_ofW HT_.out HW_.out (by kernel_rfl)) (fun _ _ _ h => h) (Or.inl ⟨by rfl, ?_⟩) hHeld ?_ ?_
      rotate_left
      · rintro w' ⟨s0, s1⟩
        go_simp
        with_reducible rfl
      rotate_left
      · simp only [Act.put, List.setIfInBounds_toArray, List.set_cons_zero, List.set_cons_succ, i64_w, i32_w]
        rfl
      refine pure_ (i := 9) (N := some 51) (v := ?_) (a' := ?_) #[true, true, true, true, true, true, true, true, true, true, false, false, false, false, false] rfl rfl (any_of HT_.out (by kernel_rfl)) (fun _ _ _ h => h) (Or.inl ⟨by rfl, ?_⟩) ?_ ?_
      rotate_left
      · intro w'
        go_simp
        with_reducible rfl
      rotate_left
      · simp only [Act.put, List.setIfInBounds_toArray, List.set_cons_zero, List.set_cons_succ, i64_w, i32_w]
        rfl
      refine pure_ (i := 10) (N := some 52) (v := ?_) (a' := ?_) #[true, true, true, true, true, true, true, true, true, true, true, false, false, false, false] rfl rfl (any_of HT_.out (by kernel_rfl)) (fun _ _ _ h => h) (Or.inl ⟨by rfl, ?_⟩) ?_ ?_
      rotate_left
      · intro w'
        go_simp
        with_reducible rfl
      rotate_left
      · simp only [Act.put, List.setIfInBounds_toArray, List.set_cons_zero, List.set_cons_succ, i64_w, i32_w]
        rfl
      refine take_ (i := 11) (N := some 53) (v := ?_) (a' := ?_) #[true, true, true, true, true, true, true, true, true, true, true, true, false, false, false] rfl rfl (take_ofW HT_.out HW_.out (by kernel_rfl)) (fun _ _ _ h => h) (Or.inl ⟨by rfl, ?_⟩) hHeld ?_ ?_
      rotate_left
      · rintro w' ⟨s0, s1⟩
        go_simp
        with_reducible rfl
      rotate_left
      · simp only [Act.put, List.setIfInBounds_toArray, List.set_cons_zero, List.set_cons_succ, i64_w, i32_w]
        rfl
      refine pure_ (i := 12) (N := some 54) (v := ?_) (a' := ?_) #[true, true, true, true, true, true, true, true, true, true, true, true, true, false, false] rfl rfl (any_of HT_.out (by kernel_rfl)) (fun _ _ _ h => h) (Or.inl ⟨by rfl, ?_⟩) ?_ ?_
      rotate_left
      · intro w'
        go_simp
        with_reducible rfl
      rotate_left
      · simp only [Act.put, List.setIfInBounds_toArray, List.set_cons_zero, List.set_cons_succ, i64_w, i32_w]
        rfl
      refine pure_ (i := 13) (N := some 55) (v := ?_) (a' := ?_) #[true, true, true, true, true, true, true, true, true, true, true, true, true, true, false] rfl rfl (any_of HT_.out (by kernel_rfl)) (fun _ _ _ h => h) (Or.inl ⟨by rfl, ?_⟩) ?_ ?_
      rotate_left
      · intro w'
        go_simp
        with_reducible rfl
      rotate_left
      · simp only [Act.put, List.setIfInBounds_toArray, List.set_cons_zero, List.set_cons_succ, i64_w, i32_w]
        rfl
      refine last_ (i := 14) (N := none) #[true, true, true, true, true, true, true, true, true, true, true, true, true, true, true] rfl rfl (one_of HT_.out (by kernel_rfl)) (by decide) (fun K hK => ?_)
      have hqf := HI.out.frozen pre.length
      have hqc := HS6.out.2
      refine skip_ (w1 := ?_) (by rfl) rfl ?_ ?_
      rotate_left
      · go_simp
        rfl
      refine hK.out _ _ ?_
      have hI4 := HI.out.cut' hC HLT.out HS6.out.2 0 (Nat.le_refl _)
      have hJ4 := hJ _ _ _ _ _ HJ.out (HI.out.stepCut pre.length (.slice Ai 0 ci)) (Grows.refl _ _)
      obtain ⟨W2, hW2⟩ : ∃ W2, W2 = wd.setCell ⟨C.L, pre.length, none⟩ (.slice Ai 0 ci) := ⟨_, rfl⟩
      rw [← hW2] at hI4 hJ4 ⊢
      clear hqf hqc hW2
      have HI4 := Lib.hid hI4
      have HJ4 := Lib.hid hJ4
      clear hI4 hJ4 HI HJ HS6
      clear hK K
      refine done_ (done_of HT_.out (by kernel_rfl)) ?_
      go_wp2_with (fail)
      refine (hel rj.toNat pre [] rj wt T' W2 (done ++ (rs.take j).flatMap F) HD.out HLEN.out HPL.out (by have := G34.out; simp; omega) (by have := G34.out; simp; omega) hw0 hw1 HJ4.out (by simpa using HI4.out)).mono ?_
      clear HI4 HJ4
      rintro e W3 ⟨b, T3, rfl, hres, hinv⟩
      have hF9 : F rj = (elemO C.rk (lowOf r) (highOf C.rk r) (slotO C.rk r) rj.toNat wt).map fun q => pre ++ (([] : List Int) ++ q.1) :: q.2 := by rw [HF.out]
      have HF9 := Lib.hid hF9
      have HRES := Lib.hid hres
      have HI5 := Lib.hid hinv
      clear hF9 hres hinv
      cases b with
      | true =>
        go_wp2
        go_roundg (rs.length - (j + 1))
        case measure => have := HKJ.out; have := HJL.out; omega
        case rel =>
          refine ⟨j + 1, T3, by have := HKJ.out; have := HJL.out; omega, by rw [G2.out], ⟨?_⟩, ⟨HI5.out⟩⟩
          rw [flat_take rs F j HJL.out, HGET.out j HJL.out, ← HRJ.out, HF9.out]
          exact HRES.out.thru
      | false =>
        go_wp2
        go_ret
        refine ⟨false, T3, rfl, ?_, HI5.out⟩
        rw [flat_all rs F j HJL.out, HGET.out j HJL.out, ← HRJ.out, HF9.out]
        exact HRES.out.stop
    · obtain ⟨rj, hrj⟩ : ∃ rj : Int, rj = m0 + (j : Int) := ⟨_, rfl⟩
      have hje : j = rs.length := by omega
      have hend := HEND.out
      rw [← hje, ← hrj] at hend
      rw [← hrj]
      have d1 : decide (rj ≤ m1) = false := decide_eq_false (by omega)
      have hfin : SPost C J Jx done (rs.flatMap F) (pre ++ [] :: List.replicate r.length []) (.returned (.bool true)) wr := by
        refine ⟨true, T', rfl, .inl ⟨rfl, ?_⟩, HI.out⟩
        have h1 := HJ.out
        rw [hje, List.take_of_length_le (Nat.le_refl _)] at h1
        exact h1
      have HFIN := Lib.hid hfin
      clear hfin hrj hje hjl hkj hend
      go_wp2
      go_ret
      exact HFIN.out
end Go.Proofs.Ytgcdeablfoomhaa.PAll
