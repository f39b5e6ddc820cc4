/- search.element: one more element of a list; the rest of the search by slot's contract. -/
import Derived.Test.YtgcdeablfoomhaaSea1
set_option linter.unusedVariables false
set_option linter.unusedSimpArgs false
namespace Go.Proofs.Ytgcdeablfoomhaa.PAll
open Go.RowKit Go.Proofs.YtgcdeablfoomhaaW.PrintWords Go.Proofs.YtgcdeablfoomhaaW.PrintLast Go.Proofs.YtgcdeablfoomhaaW.PrintMore
attribute [local go_sem] max_two
theorem tab50_7 : rtab .any (opsOf Try.f50 7) = (true, [([], []), ([0], [0]), ([], []), ([2], [2]), ([3], [3]), ([4], [4]), ([5], [5]), ([1, 6], [1, 6]), ([], []), ([8], [8]), ([9], [9]), ([10], [10]), ([], []), ([12], [12]), ([11, 13], [11, 13]), ([14], [14]), ([7, 15], [7, 15]), ([16, 0, 1, 2, 3, 4, 5, 6, 7, 8, 9, 10, 11, 12, 13, 14, 15, 16], [16])]) := by kernel_rfl
theorem bits50_7 : waitsOk (true, [([], []), ([0], [0]), ([], []), ([2], [2]), ([3], [3]), ([4], [4]), ([5], [5]), ([1, 6], [1, 6]), ([], []), ([8], [8]), ([9], [9]), ([10], [10]), ([], []), ([12], [12]), ([11, 13], [11, 13]), ([14], [14]), ([7, 15], [7, 15]), ([16, 0, 1, 2, 3, 4, 5, 6, 7, 8, 9, 10, 11, 12, 13, 14, 15, 16], [16])]).2 [0, 1, 0, 4, 12, 28, 60, 127, 0, 256, 768, 1792, 0, 4096, 16128, 32512, 65535, 131071] = true := by decide +kernel
theorem tab50_11 : rtab .any (opsOf Try.f50 11) = (true, [([], []), ([0], [0]), ([1], [1]), ([2], [2]), ([], []), ([], []), ([5], [5]), ([6], [6]), ([7], [7]), ([], []), ([8, 9], [8, 9]), ([10], [10]), ([], []), ([12], [12]), ([13], [13]), ([11, 14, 13], [11, 14]), ([3, 4, 0, 1, 2, 3, 4, 5, 6, 7, 8, 9, 10, 11, 12, 13, 14, 15], [3, 4]), ([16, 15, 15, 0, 1, 2, 3, 4, 5, 6, 7, 8, 9, 10, 11, 12, 13, 14, 15], [15, 16])]) := by kernel_rfl
theorem bits50_11 : waitsOk (true, [([], []), ([0], [0]), ([1], [1]), ([2], [2]), ([], []), ([], []), ([5], [5]), ([6], [6]), ([7], [7]), ([], []), ([8, 9], [8, 9]), ([10], [10]), ([], []), ([12], [12]), ([13], [13]), ([11, 14, 13], [11, 14]), ([3, 4, 0, 1, 2, 3, 4, 5, 6, 7, 8, 9, 10, 11, 12, 13, 14, 15], [3, 4]), ([16, 15, 15, 0, 1, 2, 3, 4, 5, 6, 7, 8, 9, 10, 11, 12, 13, 14, 15], [15, 16])]).2 [0, 1, 3, 7, 0, 0, 32, 96, 224, 0, 992, 2016, 0, 4096, 12288, 32736, 65535, 131071] = true := by decide +kernel
theorem tab50_13 : rtab .any (opsOf Try.f50 13) = (true, [([], []), ([0], [0]), ([1], [1]), ([2], [2]), ([], []), ([], []), ([5], [5]), ([6], [6]), ([7], [7]), ([], []), ([8, 9], [8, 9]), ([10], [10]), ([], []), ([12], [12]), ([13], [13]), ([14], [14]), ([], []), ([15, 16], [15, 16]), ([17], [17]), ([18], [18]), ([19], [19]), ([11, 20], [11, 20]), ([3, 4, 0, 1, 2, 3, 4, 5, 6, 7, 8, 9, 10, 11, 12, 13, 14, 15, 16, 17, 18, 19, 20, 21], [3, 4]), ([22, 21, 0, 1, 2, 3, 4, 5, 6, 7, 8, 9, 10, 11, 12, 13, 14, 15, 16, 17, 18, 19, 20, 21], [21, 22])]) := by kernel_rfl
theorem bits50_13 : waitsOk (true, [([], []), ([0], [0]), ([1], [1]), ([2], [2]), ([], []), ([], []), ([5], [5]), ([6], [6]), ([7], [7]), ([], []), ([8, 9], [8, 9]), ([10], [10]), ([], []), ([12], [12]), ([13], [13]), ([14], [14]), ([], []), ([15, 16], [15, 16]), ([17], [17]), ([18], [18]), ([19], [19]), ([11, 20], [11, 20]), ([3, 4, 0, 1, 2, 3, 4, 5, 6, 7, 8, 9, 10, 11, 12, 13, 14, 15, 16, 17, 18, 19, 20, 21], [3, 4]), ([22, 21, 0, 1, 2, 3, 4, 5, 6, 7, 8, 9, 10, 11, 12, 13, 14, 15, 16, 17, 18, 19, 20, 21], [21, 22])]).2 [0, 1, 3, 7, 0, 0, 32, 96, 224, 0, 992, 2016, 0, 4096, 12288, 28672, 0, 126976, 258048, 520192, 1044480, 2097120, 4194303, 8388607] = true := by decide +kernel

theorem getD_at (pre : List (List Int)) (cur : List Int) (more : List (List Int)) : (pre ++ cur :: more).getD pre.length [] = cur := by
  simp [List.getD_eq_getElem?_getD]
theorem set_at (pre : List (List Int)) (cur x : List Int) (more : List (List Int)) : (pre ++ cur :: more).set pre.length x = pre ++ x :: more := by
  simp
/-- What is read at list i: its row, its neighbours' weights. -/
theorem Inv.at_ {C : Cx} {T : Nat → Prop} {W : World} {pre : List (List Int)} {cur : List Int} {more : List (List Int)} (h : Inv C T W (pre ++ cur :: more)) (hn : pre.length < C.sl.length) :
    ∃ Ai ci, W.cell? ⟨C.L, pre.length, none⟩ = some (.slice Ai cur.length ci) ∧ Kd.R (Kd.int .i64) 3 W C.M0 T (.slice Ai cur.length ci) cur ∧ cur.length ≤ ci := by
  obtain ⟨Ai, ci, h1, h2⟩ := h.row pre.length hn
  rw [getD_at] at h1 h2
  exact ⟨Ai, ci, h1, h2, (Kd.R_reads' h2).2.1⟩

theorem Inv.app' {C : Cx} {T : Nat → Prop} {W : World} {pre : List (List Int)} {cur : List Int} {more : List (List Int)} (h : Inv C T W (pre ++ cur :: more)) (hC : C.Ok) (hn : pre.length < C.sl.length) {Ai : Option Addr} {ci : Nat} (hc : W.cell? ⟨C.L, pre.length, none⟩ = some (.slice Ai cur.length ci)) {w2 : World} {v2 : Value} {x : Int}
    (hv : Kd.R (Kd.int .i64) 3 w2 C.M0 (fun k => T k ∨ W.heap.size ≤ k) v2 (cur ++ [x])) (hg : W.grownBy w2 (Value.slice Ai cur.length ci).ownBlock) (hat : v2.ownBlock = (Value.slice Ai cur.length ci).ownBlock ∨ ∃ b, v2.ownBlock = some b ∧ W.heap.size ≤ b) :
    Inv C (fun k => T k ∨ (W.heap.size ≤ k ∧ k < w2.heap.size)) (w2.setCell ⟨C.L, pre.length, none⟩ v2) (pre ++ (cur ++ [x]) :: more) ∧ StepT T W (w2.setCell ⟨C.L, pre.length, none⟩ v2) ∧ Grows T (fun k => T k ∨ (W.heap.size ≤ k ∧ k < w2.heap.size)) W := by
  have h1 := h.app (Ai := Ai) (ci := ci) (w2 := w2) (v2 := v2) (x := x) hC pre.length hn
  rw [getD_at, set_at] at h1
  exact h1 hc hv hg hat
theorem Inv.cut' {C : Cx} {T : Nat → Prop} {W : World} {pre : List (List Int)} {cur : List Int} {more : List (List Int)} (h : Inv C T W (pre ++ cur :: more)) (hC : C.Ok) (hn : pre.length < C.sl.length) {Ai : Option Addr} {ci : Nat} (hc : W.cell? ⟨C.L, pre.length, none⟩ = some (.slice Ai cur.length ci)) (m : Nat) (hm : m ≤ cur.length) :
    Inv C T (W.setCell ⟨C.L, pre.length, none⟩ (.slice Ai m ci)) (pre ++ cur.take m :: more) := by
  have h1 := h.cut (Ai := Ai) (ci := ci) hC pre.length hn
  rw [getD_at] at h1
  have h2 := h1 hc m hm
  rwa [set_at] at h2

set_option maxRecDepth 100000 in
set_option maxHeartbeats 8000000 in
theorem elem_zero (C : Cx) (hC : C.Ok) (J Jx : (Nat → Prop) → List (List (List Int)) → World → Prop) (hJ : Abide J) (hJx : Abide Jx) (rest : List S62) (hslot : SlotC C J Jx rest) : ElemC C J Jx rest 0 := by
  intro pre cur mI wt T W done hd hlen hpl hcl hmI hw0 hw1 hj hi
  obtain ⟨lo, hlo⟩ : ∃ lo, lo = lowOf rest := ⟨_, rfl⟩
  obtain ⟨hi', hhi⟩ : ∃ hi', hi' = highOf C.rk rest := ⟨_, rfl⟩
  obtain ⟨Ai, ci, hrow, _, hcc⟩ := hi.at_ (by omega)
  obtain ⟨b0, b1, b2, b3, b4, b5⟩ := hi.c.cell
  have xlo := hi.c.lo_ (pre.length + 1) (by omega)
  have xhi := hi.c.hi_ (pre.length + 1) (by omega)
  rw [hd, ← hlo] at xlo
  rw [hd, ← hhi] at xhi
  have hout : (elemO C.rk (lowOf rest) (highOf C.rk rest) (slotO C.rk rest) 0 wt).map (fun q => pre ++ (cur ++ q.1) :: q.2) = if wt < lo ∨ wt > hi' then [] else (slotO C.rk rest wt).map fun q => (pre ++ [cur]) ++ q := by
    rw [hlo, hhi]
    unfold elemO
    split
    · rfl
    · rw [List.map_map]
      refine List.map_congr_left fun q _ => ?_
      simp
  rw [hout]
  have p1 : (0 ≤ (pre.length : Int)) = True := eq_true (by omega)
  have p2 : ((pre.length : Int) < (C.sl.length : Int)) = True := eq_true (by omega)
  have p3 : (pre.length < C.sl.length) = True := eq_true (by omega)
  have p4 : (0 ≤ (pre.length : Int) + 1) = True := eq_true (by omega)
  have p5 : ((pre.length : Int) + 1 < (C.sl.length : Int) + 1) = True := eq_true (by omega)
  have p6 : (pre.length + 1 < C.sl.length + 1) = True := eq_true (by omega)
  have p7 : ((pre.length : Int) + 1).toNat = pre.length + 1 := by omega
  have hwl : wrap64 (mI - (cur.length : Int)) = 0 := by rw [hmI, wrap64_of' (by omega) (by omega)]; omega
  have hwi : wrap64 ((pre.length : Int) + 1) = (pre.length : Int) + 1 := wrap64_of' (by have := hC.n1; omega) (by have := hC.n1; omega)
  have HI := Lib.hid hi
  have HJ := Lib.hid hj
  have HD := Lib.hid hd
  have HLEN := Lib.hid hlen
  have HPL := Lib.hid hpl
  have HCL := Lib.hid hcl
  have HMI := Lib.hid hmI
  have HLO := Lib.hid hlo
  have HHI := Lib.hid hhi
  clear hi hj hd hlen hpl hcl hmI hlo hhi hout
  by_cases c1 : wt < lo
  · have c1b : decide (wt < lo) = true := decide_eq_true c1
    rw [if_pos (.inl c1)]
    go_enter Try.func50, Try.ntmps50
    go_wp2
    go_ret
    exact ⟨true, T, rfl, Res.end_ HJ.out, HI.out⟩
  · have c1b : decide (wt < lo) = false := decide_eq_false c1
    by_cases c2 : wt > hi'
    · have c2b : decide (hi' < wt) = true := decide_eq_true c2
      rw [if_pos (.inr c2)]
      go_enter Try.func50, Try.ntmps50
      go_wp2
      go_ret
      exact ⟨true, T, rfl, Res.end_ HJ.out, HI.out⟩
    · have c2b : decide (hi' < wt) = false := decide_eq_false c2
      rw [if_neg (by omega)]
      have hcall := hslot (pre ++ [cur]) wt T W done (by simpa using HD.out) (by have := HLEN.out; simp; omega) (by
        intro r hr
        rcases List.mem_append.1 hr with h | h
        · exact HPL.out r h
        · rw [List.mem_singleton.1 h]; have := HCL.out; omega) hw0 hw1 HJ.out (by simpa using HI.out)
      have e1 : ((pre ++ [cur]).length : Int) = (pre.length : Int) + 1 := by simp
      rw [e1] at hcall
      have HCALL := Lib.hid hcall
      clear hcall e1 b0 b1 b5
      go_enter Try.func50, Try.ntmps50
      go_wp2_with (fail)
      refine HCALL.out.mono ?_
      rintro e W' ⟨b, T', rfl, hres, hinv⟩
      go_wp2
      go_ret
      exact ⟨b, T', rfl, hres, by simpa using hinv⟩

theorem elem_out (pre : List (List Int)) (cur : List Int) (rk lo hi : Int) (K : Int → List (List (List Int))) (left : Nat) (wt r0 r1 : Int) (h0 : r0 = max 0 (wt - 1 - ((left : Int) * (rk + 1) + hi))) (h1 : r1 = min rk (wt - 1 - ((left : Int) + lo))) :
    (elemO rk lo hi K (left + 1) wt).map (fun q => pre ++ (cur ++ q.1) :: q.2) = (irange r0 r1).flatMap fun r => (elemO rk lo hi K left (wt - 1 - r)).map fun q => pre ++ ((cur ++ [unrank r]) ++ q.1) :: q.2 := by
  subst h0
  subst h1
  rw [elemO, List.map_flatMap]
  congr 1
  funext r
  rw [List.map_map]
  refine List.map_congr_left fun q _ => ?_
  simp

set_option maxRecDepth 100000 in
set_option maxHeartbeats 16000000 in
theorem elem_succ (C : Cx) (hC : C.Ok) (J Jx : (Nat → Prop) → List (List (List Int)) → World → Prop) (hJ : Abide J) (hJx : Abide Jx) (rest : List S62) (left : Nat) (ih : ElemC C J Jx rest left) : ElemC C J Jx rest (left + 1) := by
  intro pre cur mI wt T W done hd hlen hpl hcl hmI hw0 hw1 hj hi
  have hn1 := hC.n1
  have hr0 := hC.r0
  have hr1 := hC.r1
  have hblo := hC.lo (pre.length + 1)
  have hbhi := hC.hi (pre.length + 1)
  rw [hd] at hblo hbhi
  obtain ⟨lo, hlo⟩ : ∃ lo, lo = lowOf rest := ⟨_, rfl⟩
  obtain ⟨hi', hhi⟩ : ∃ hi', hi' = highOf C.rk rest := ⟨_, rfl⟩
  rw [← hlo] at hblo
  rw [← hhi] at hbhi
  obtain ⟨lf, hlf⟩ : ∃ lf : Int, lf = (left : Int) := ⟨_, rfl⟩
  obtain ⟨l1, hl1⟩ : ∃ l1 : Int, l1 = lf + 1 := ⟨_, rfl⟩
  obtain ⟨k1, hk1⟩ : ∃ k1 : Int, k1 = C.rk + 1 := ⟨_, rfl⟩
  obtain ⟨lw, hlw⟩ : ∃ lw : Int, lw = lf + lo := ⟨_, rfl⟩
  obtain ⟨pm, hpm⟩ : ∃ pm : Int, pm = lf * k1 := ⟨_, rfl⟩
  obtain ⟨hg, hhg⟩ : ∃ hg : Int, hg = pm + hi' := ⟨_, rfl⟩
  obtain ⟨wm, hwm⟩ : ∃ wm : Int, wm = wt - 1 := ⟨_, rfl⟩
  obtain ⟨wq, hwq⟩ : ∃ wq : Int, wq = wm - hg := ⟨_, rfl⟩
  obtain ⟨r0, hr0e⟩ : ∃ r0 : Int, r0 = max 0 wq := ⟨_, rfl⟩
  obtain ⟨r1, hr1e⟩ : ∃ r1 : Int, r1 = min C.rk (wm - lw) := ⟨_, rfl⟩
  have hpm0 : 0 ≤ pm ∧ pm ≤ 4000000 := by
    rw [hpm]
    have a1 : 0 ≤ lf := by omega
    have a2 : lf ≤ 1000 := by omega
    have a3 : 0 ≤ k1 := by omega
    have a4 : k1 ≤ 2001 := by omega
    refine ⟨Int.mul_nonneg a1 a3, ?_⟩
    have := Int.mul_le_mul a2 a4 a3 (by decide : (0 : Int) ≤ 1000)
    omega
  have hr0b : 0 ≤ r0 := by omega
  have hcount : ∀ j : Nat, j < (irange r0 r1).length ↔ r0 + (j : Int) ≤ r1 := fun j => by rw [irange_length]; omega
  have hrange : r0 + ((irange r0 r1).length : Int) ≤ 2000000 ∨ (irange r0 r1).length = 0 := by rw [irange_length]; omega
  have hr0big : r0 ≤ 1099511627776 := by omega
  have hout := elem_out pre cur C.rk (lowOf rest) (highOf C.rk rest) (slotO C.rk rest) left wt r0 r1 (by rw [hr0e, hwq, hwm, hhg, hpm, hk1, hlf, hhi]) (by rw [hr1e, hwm, hlw, hlf, hlo])
  rw [hout]
  clear hout
  obtain ⟨rs, hrs⟩ : ∃ rs, rs = irange r0 r1 := ⟨_, rfl⟩
  obtain ⟨F, hF⟩ : ∃ F, F = fun r => (elemO C.rk (lowOf rest) (highOf C.rk rest) (slotO C.rk rest) left (wt - 1 - r)).map fun q => pre ++ ((cur ++ [unrank r]) ++ q.1) :: q.2 := ⟨_, rfl⟩
  rw [← hrs, ← hF]
  rw [← hrs] at hcount hrange
  have hget : ∀ (j : Nat) (h : j < rs.length), rs[j] = r0 + (j : Int) := fun j h => by subst hrs; exact irange_get _ _ j h
  have e1 : wrap64 (mI - (cur.length : Int)) = l1 := by rw [hmI, wrap64_of' (by omega) (by omega)]; omega
  have e2 : wrap64 (l1 - 1) = lf := by rw [wrap64_of' (by omega) (by omega)]; omega
  have e3 : wrap64 (lf + lo) = lw := by rw [wrap64_of' (by omega) (by omega)]; exact hlw.symm
  have e4 : wrap64 (C.rk + 1) = k1 := by rw [wrap64_of' (by omega) (by omega)]; exact hk1.symm
  have e5 : wrap64 (lf * k1) = pm := by rw [← hpm, wrap64_of' (by omega) (by omega)]
  have e6 : wrap64 (pm + hi') = hg := by rw [wrap64_of' (by omega) (by omega)]; exact hhg.symm
  have e7 : wrap64 (wt - 1) = wm := by rw [wrap64_of' (by omega) (by omega)]; exact hwm.symm
  have e8 : wrap64 (wm - hg) = wq := by rw [wrap64_of' (by omega) (by omega)]; exact hwq.symm
  have e9 : wrap64 (wt - 1 - hg) = wq := by rw [wrap64_of' (by omega) (by omega)]; omega
  have q1 : (l1 == 0) = false := beq_eq_false_iff_ne.mpr (by omega)
  have q2 : decide (l1 = 0) = false := decide_eq_false (by omega)
  have hstp : ∀ (j : Nat), j < rs.length → wrap64 (wm - (r0 + (j : Int))) = wm - (r0 + (j : Int)) ∧ (r0 + (j : Int) ≤ C.rk ∧ lw ≤ wm - (r0 + (j : Int))) ∧ wrap64 (r0 + (j : Int) + 1) = r0 + ((j + 1 : Nat) : Int) := fun j hjl => by
    have h1 := (hcount j).1 hjl
    refine ⟨wrap64_of' (by omega) (by omega), ⟨by omega, by omega⟩, ?_⟩
    rw [wrap64_of' (by omega) (by omega)]; omega
  have hend : r0 + (rs.length : Int) > C.rk ∨ (r0 + (rs.length : Int) ≤ C.rk ∧ wrap64 (wm - (r0 + (rs.length : Int))) = wm - (r0 + (rs.length : Int)) ∧ wrap64 (wt - 1 - (r0 + (rs.length : Int))) = wm - (r0 + (rs.length : Int)) ∧ wm - (r0 + (rs.length : Int)) < lw) := by
    have h1 := mt (hcount rs.length).2 (Nat.lt_irrefl _)
    by_cases h2 : r0 + (rs.length : Int) > C.rk
    · exact .inl h2
    · exact .inr ⟨by omega, wrap64_of' (by omega) (by omega), by rw [wrap64_of' (by omega) (by omega)]; omega, by omega⟩
  have hrb : ∀ (j : Nat), j < rs.length → 0 ≤ r0 + (j : Int) ∧ r0 + (j : Int) ≤ 2000 ∧ 0 ≤ wt - 1 - (r0 + (j : Int)) ∧ wt - 1 - (r0 + (j : Int)) ≤ 1099511627776 ∧ wm - (r0 + (j : Int)) = wt - 1 - (r0 + (j : Int)) := fun j hjl => by
    have h1 := (hcount j).1 hjl
    refine ⟨by omega, by omega, by omega, by omega, by omega⟩
  have hlt : pre.length < C.sl.length := by omega
  have hc2 : cur.length < 1000 := by omega
  have hmx : Builtin.max2 (.int .i64 0) (.int .i64 wq) = pure (.int .i64 r0) := by
    rw [max2_int]
    congr 2
    split <;> omega
  clear hcount hrange hr0big hr0b hpm0 hr1e hr0e hwq hwm hhg hpm hlw hk1 hl1 hblo hbhi hn1 hr0 hr1
  have hi1 := hi.c.hi_ (pre.length + 1) (by omega)
  rw [hd, ← hhi] at hi1
  have xlo := hi.c.lo_ (pre.length + 1) (by omega)
  rw [hd, ← hlo] at xlo
  obtain ⟨Ai, ci, hrow, _, hcc⟩ := hi.at_ hlt
  obtain ⟨b0, b1, b2, b3, b4, b5⟩ := hi.c.cell
  have p1 : (0 ≤ (pre.length : Int)) = True := eq_true (by omega)
  have p2 : ((pre.length : Int) < (C.sl.length : Int)) = True := eq_true (by omega)
  have p3 : (pre.length < C.sl.length) = True := eq_true (by omega)
  have p4 : (0 ≤ (pre.length : Int) + 1) = True := eq_true (by omega)
  have p5 : ((pre.length : Int) + 1 < (C.sl.length : Int) + 1) = True := eq_true (by omega)
  have p6 : (pre.length + 1 < C.sl.length + 1) = True := eq_true (by omega)
  have p7 : ((pre.length : Int) + 1).toNat = pre.length + 1 := by omega
  have p8 : wrap64 ((pre.length : Int) + 1) = (pre.length : Int) + 1 := wrap64_of' (by have := hC.n1; omega) (by have := hC.n1; omega)
  have HI := Lib.hid hi
  have HJ := Lib.hid hj
  have HPL := Lib.hid hpl
  have HMI := Lib.hid hmI
  have HD := Lib.hid hd
  have HLEN := Lib.hid hlen
  have HLO := Lib.hid hlo
  have HHI := Lib.hid hhi
  have HF := Lib.hid hF
  have HLF := Lib.hid hlf
  have HSTP := Lib.hid hstp
  have HEND := Lib.hid hend
  have HRB := Lib.hid hrb
  have HGET := Lib.hid hget
  have HLT := Lib.hid hlt
  have HC2 := Lib.hid hc2
  have HCL := Lib.hid hcl
  have HCC := Lib.hid hcc
  clear hi hj hpl hmI hd hlen hlo hhi hF hlf hstp hend hrb hget hlt hc2 hcc hcl hrs
  have hS7 : (W.drew.cell? ⟨C.B, 1, none⟩ = some (.int .i64 C.rk) ∧ W.drew.cell? ⟨C.B, 3, none⟩ = some (.slice (some ⟨C.gh, 0, none⟩) (C.sl.length + 1) C.ch) ∧ W.drew.cell? ⟨C.gh, pre.length + 1, none⟩ = some (.int .i64 hi')) := ⟨b1, b3, hi1⟩
  have HS7 := Lib.hid hS7
  clear hS7
  go_enter Try.func50, Try.ntmps50
  go_upto_region 7 with (fail)
  refine start_ (n := 18) (S := fun w' => w'.cell? ⟨C.B, 1, none⟩ = some (.int .i64 C.rk) ∧ w'.cell? ⟨C.B, 3, none⟩ = some (.slice (some ⟨C.gh, 0, none⟩) (C.sl.length + 1) C.ch) ∧ w'.cell? ⟨C.gh, pre.length + 1, none⟩ = some (.int .i64 hi')) (ds := []) #[false, false, false, false, false, false, false, false, false, false, false, false, false, false, false, false, false, false] (by kernel_rfl) rfl rfl HS7.out (fun hHeld => ?_); refine with_tabW tab50_7 bits50_7 (fun HT_ HW_ => ?_)
  refine pure_ (i := 0) (N := some 64) (v := ?_) (a' := ?_) #[true, false, false, false, false, false, false, false, false, false, false, false, false, false, false, false, false, false] rfl rfl (any_of HT_.out (by kernel_rfl)) (fun _ _ _ h => h) (Or.inl ⟨by rfl, ?_⟩) ?_ ?_
  rotate_left
  · intro w'
    go_simp
    with_reducible rfl
  rotate_left
  · simp only [Act.put, List.setIfInBounds_toArray, List.set_cons_zero, List.set_cons_succ, i64_w, i32_w]
    rfl
  refine pure_ (i := 1) (N := some 65) (v := ?_) (a' := ?_) #[true, true, false, false, false, false, false, false, false, false, false, false, false, false, false, false, false, false] rfl rfl (any_of HT_.out (by kernel_rfl)) (fun _ _ _ h => h) (Or.inl ⟨by rfl, ?_⟩) ?_ ?_
  rotate_left
  · intro w'
    go_simp
    with_reducible rfl
  rotate_left
  · simp only [Act.put, List.setIfInBounds_toArray, List.set_cons_zero, List.set_cons_succ, i64_w, i32_w]
    rfl
  refine pure_ (i := 2) (N := some 66) (v := ?_) (a' := ?_) #[true, true, true, false, false, false, false, false, false, false, false, false, false, false, false, false, false, false] rfl rfl (any_of HT_.out (by kernel_rfl)) (fun _ _ _ h => h) (Or.inl ⟨by rfl, ?_⟩) ?_ ?_
  rotate_left
  · intro w'
    go_simp
    with_reducible rfl
  rotate_left
  · simp only [Act.put, List.setIfInBounds_toArray, List.set_cons_zero, List.set_cons_succ, i64_w, i32_w]
    rfl
  refine pure_ (i := 3) (N := some 67) (v := ?_) (a' := ?_) #[true, true, true, true, false, false, false, false, false, false, false, false, false, false, false, false, false, false] rfl rfl (any_of HT_.out (by kernel_rfl)) (fun _ _ _ h => h) (Or.inl ⟨by rfl, ?_⟩) ?_ ?_
  rotate_left
  · intro w'
    go_simp
    with_reducible rfl
  rotate_left
  · simp only [Act.put, List.setIfInBounds_toArray, List.set_cons_zero, List.set_cons_succ, i64_w, i32_w]
    rfl
  refine pure_ (i := 4) (N := some 68) (v := ?_) (a' := ?_) #[true, true, true, true, true, false, false, false, false, false, false, false, false, false, false, false, false, false] rfl rfl (any_of HT_.out (by kernel_rfl)) (fun _ _ _ h => h) (Or.inl ⟨by rfl, ?_⟩) ?_ ?_
  rotate_left
  · intro w'
    go_simp
    with_reducible rfl
  rotate_left
  · simp only [Act.put, List.setIfInBounds_toArray, List.set_cons_zero, List.set_cons_succ, i64_w, i32_w]
    rfl
  refine take_ (i := 5) (N := some 69) (v := ?_) (a' := ?_) #[true, true, true, true, true, true, false, false, false, false, false, false, false, false, false, false, false, false] rfl rfl (take_ofW HT_.out HW_.out (by kernel_rfl)) (fun _ _ _ h => h) (Or.inl ⟨by rfl, ?_⟩) hHeld ?_ ?_
  rotate_left
  · rintro w' ⟨s0, s1, s2⟩
    go_simp
    with_reducible rfl
  rotate_left
  · simp only [Act.put, List.setIfInBounds_toArray, List.set_cons_zero, List.set_cons_succ, i64_w, i32_w]
    rfl
  refine pure_ (i := 6) (N := some 70) (v := ?_) (a' := ?_) #[true, true, true, true, true, true, true, false, false, false, false, false, false, false, false, false, false, false] rfl rfl (any_of HT_.out (by kernel_rfl)) (fun _ _ _ h => h) (Or.inl ⟨by rfl, ?_⟩) ?_ ?_
  rotate_left
  · intro w'
    go_simp
    with_reducible rfl
  rotate_left
  · simp only [Act.put, List.setIfInBounds_toArray, List.set_cons_zero, List.set_cons_succ, i64_w, i32_w]
    rfl
  refine pure_ (i := 7) (N := some 71) (v := ?_) (a' := ?_) #[true, true, true, true, true, true, true, true, false, false, false, false, false, false, false, false, false, false] rfl rfl (any_of HT_.out (by kernel_rfl)) (fun _ _ _ h => h) (Or.inl ⟨by rfl, ?_⟩) ?_ ?_
  rotate_left
  · intro w'
    go_simp
    with_reducible rfl
  rotate_left
  · simp only [Act.put, List.setIfInBounds_toArray, List.set_cons_zero, List.set_cons_succ, i64_w, i32_w]
    rfl
  refine pure_ (i := 8) (N := some 72) (v := ?_) (a' := ?_) #[true, true, true, true, true, true, true, true, true, false, false, false, false, false, false, false, false, false] rfl rfl (any_of HT_.out (by kernel_rfl)) (fun _ _ _ h => h) (Or.inl ⟨by rfl, ?_⟩) ?_ ?_
  rotate_left
  · intro w'
    go_simp
    with_reducible rfl
  rotate_left
  · simp only [Act.put, List.setIfInBounds_toArray, List.set_cons_zero, List.set_cons_succ, i64_w, i32_w]
    rfl
  refine pure_ (i := 9) (N := some 73) (v := ?_) (a' := ?_) #[true, true, true, true, true, true, true, true, true, true, false, false, false, false, false, false, false, false] rfl rfl (any_of HT_.out (by kernel_rfl)) (fun _ _ _ h => h) (Or.inl ⟨by rfl, ?_⟩) ?_ ?_
  rotate_left
  · intro w'
    go_simp
    with_reducible rfl
  rotate_left
  · simp only [Act.put, List.setIfInBounds_toArray, List.set_cons_zero, List.set_cons_succ, i64_w, i32_w]
    rfl
  refine pure_ (i := 10) (N := some 74) (v := ?_) (a' := ?_) #[true, true, true, true, true, true, true, true, true, true, true, false, false, false, false, false, false, false] rfl rfl (any_of HT_.out (by kernel_rfl)) (fun _ _ _ h => h) (Or.inl ⟨by rfl, ?_⟩) ?_ ?_
  rotate_left
  · intro w'
    go_simp
    with_reducible rfl
  rotate_left
  · simp only [Act.put, List.setIfInBounds_toArray, List.set_cons_zero, List.set_cons_succ, i64_w, i32_w]
    rfl
  refine take_ (i := 11) (N := some 75) (v := ?_) (a' := ?_) #[true, true, true, true, true, true, true, true, true, true, true, true, false, false, false, false, false, false] rfl rfl (take_ofW HT_.out HW_.out (by kernel_rfl)) (fun _ _ _ h => h) (Or.inl ⟨by rfl, ?_⟩) hHeld ?_ ?_
  rotate_left
  · rintro w' ⟨s0, s1, s2⟩
    go_simp
    with_reducible rfl
  rotate_left
  · simp only [Act.put, List.setIfInBounds_toArray, List.set_cons_zero, List.set_cons_succ, i64_w, i32_w]
    rfl
  refine pure_ (i := 12) (N := some 76) (v := ?_) (a' := ?_) #[true, true, true, true, true, true, true, true, true, true, true, true, true, false, false, false, false, false] rfl rfl (any_of HT_.out (by kernel_rfl)) (fun _ _ _ h => h) (Or.inl ⟨by rfl, ?_⟩) ?_ ?_
  rotate_left
  · intro w'
    go_simp
    with_reducible rfl
  rotate_left
  · simp only [Act.put, List.setIfInBounds_toArray, List.set_cons_zero, List.set_cons_succ, i64_w, i32_w]
    rfl
  refine pure_ (i := 13) (N := some 77) (v := ?_) (a' := ?_) #[true, true, true, true, true, true, true, true, true, true, true, true, true, true, false, false, false, false] rfl rfl (any_of HT_.out (by kernel_rfl)) (fun _ _ _ h => h) (Or.inl ⟨by rfl, ?_⟩) ?_ ?_
  rotate_left
  · intro w'
    go_simp
    with_reducible rfl
  rotate_left
  · simp only [Act.put, List.setIfInBounds_toArray, List.set_cons_zero, List.set_cons_succ, i64_w, i32_w]
    rfl
  refine pure_ (i := 14) (N := some 78) (v := ?_) (a' := ?_) #[true, true, true, true, true, true, true, true, true, true, true, true, true, true, true, false, false, false] rfl rfl (any_of HT_.out (by kernel_rfl)) (fun _ _ _ h => h) (Or.inl ⟨by rfl, ?_⟩) ?_ ?_
  rotate_left
  · intro w'
    go_simp
    with_reducible rfl
  rotate_left
  · simp only [Act.put, List.setIfInBounds_toArray, List.set_cons_zero, List.set_cons_succ, i64_w, i32_w]
    rfl
  refine take_ (i := 15) (N := some 79) (v := ?_) (a' := ?_) #[true, true, true, true, true, true, true, true, true, true, true, true, true, true, true, true, false, false] rfl rfl (take_ofW HT_.out HW_.out (by kernel_rfl)) (fun _ _ _ h => h) (Or.inl ⟨by rfl, ?_⟩) hHeld ?_ ?_
  rotate_left
  · rintro w' ⟨s0, s1, s2⟩
    go_simp
    with_reducible rfl
  rotate_left
  · simp only [Act.put, List.setIfInBounds_toArray, List.set_cons_zero, List.set_cons_succ, i64_w, i32_w]
    rfl
  refine pure_ (i := 16) (N := some 80) (v := ?_) (a' := ?_) #[true, true, true, true, true, true, true, true, true, true, true, true, true, true, true, true, true, false] rfl rfl (any_of HT_.out (by kernel_rfl)) (fun _ _ _ h => h) (Or.inl ⟨by rfl, ?_⟩) ?_ ?_
  rotate_left
  · intro w'
    go_simp
    with_reducible rfl
  rotate_left
  · simp only [Act.put, List.setIfInBounds_toArray, List.set_cons_zero, List.set_cons_succ, i64_w, i32_w]
    rfl
  refine pure_ (i := 17) (N := some 11) (v := ?_) (a' := ?_) #[true, true, true, true, true, true, true, true, true, true, true, true, true, true, true, true, true, true] rfl rfl (any_of HT_.out (by kernel_rfl)) (fun _ _ _ h => h) (Or.inl ⟨by rfl, ?_⟩) ?_ ?_
  rotate_left
  · intro w'
    go_simp
    with_reducible rfl
  rotate_left
  · simp only [Act.put, List.setIfInBounds_toArray, List.set_cons_zero, List.set_cons_succ, i64_w, i32_w]
    rfl
  refine done_ (done_of HT_.out (by kernel_rfl)) ?_
  clear hHeld HS7 b0 b1 b2 b3 b4 b5 hi1 xlo hrow HCC
  try go_wp2
  go_loopg [12] rs.length (fun kq v12 wr => ∃ (j : Nat) (T' : Nat → Prop), kq + j = rs.length ∧ v12 = .int .i64 (r0 + (j : Int)) ∧ Aside0 (J T' (done ++ (rs.take j).flatMap F) wr) ∧ Aside0 (Inv C T' wr (pre ++ cur :: List.replicate rest.length [])))
  case atStart => exact ⟨0, T, rfl, by simp, ⟨by simpa using hJ _ _ _ _ _ HJ.out (StepT.of_below (below_drew1 (Below.refl _ _))) (Grows.refl _ _)⟩, ⟨HI.out.below (below_drew1 (Below.refl _ _))⟩⟩
  case round =>
    clear HI HJ
    obtain ⟨j, T', hkj, rfl, HJ, HI⟩ := hrel
    obtain ⟨b0, b1, b2, b3, b4, b5⟩ := HI.out.c.cell
    obtain ⟨Ai, ci, hrow, hR, hcc⟩ := HI.out.at_ HLT.out
    have HR := Lib.hid hR
    have HCC := Lib.hid hcc
    clear hR hcc b0 b2 b3 b5
    by_cases hjl : j < rs.length
    · obtain ⟨g1, ⟨g2, g3⟩, g4⟩ := HSTP.out j hjl
      obtain ⟨g5, g6, g7, g8, g9⟩ := HRB.out j hjl
      obtain ⟨rj, hrj⟩ : ∃ rj : Int, rj = r0 + (j : Int) := ⟨_, rfl⟩
      rw [← hrj] at g1 g2 g3 g4 g5 g6 g7 g8 g9 ⊢
      obtain ⟨wn, hwn⟩ : ∃ wn : Int, wn = wm - rj := ⟨_, rfl⟩
      rw [← hwn] at g1 g3 g9
      have d1 : decide (rj ≤ C.rk) = true := decide_eq_true g2
      have d2 : decide (lw ≤ wn) = true := decide_eq_true g3
      have d3 : wrap64 (wt - 1 - rj) = wn := by rw [← g9, wrap64_of' (by omega) (by omega)]
      have G4 := Lib.hid g4
      have G5 := Lib.hid g5
      have G6 := Lib.hid g6
      have G78 := Lib.hid (And.intro g7 g8)
      have G9 := Lib.hid g9
      have HRJ := Lib.hid hrj
      have HKJ := Lib.hid hkj
      have HJL := Lib.hid hjl
      clear g2 g3 g4 g5 g6 g7 g8 g9 hrj hwn hkj hjl
      go_upto_region 11 with (fail)
      have nb : Below wr.heap.size wr wr.drew := below_drew1 (Below.refl _ _)
      obtain ⟨wd, hwd⟩ : ∃ wd, wd = wr.drew := ⟨_, rfl⟩
      rw [← hwd] at nb
      have nHI := HI.out.below nb
      have nHJ := hJ _ _ _ _ _ HJ.out (StepT.of_below nb) (Grows.refl _ _)
      have nHR := Kd.R_below HR.out nb
      have nb4 : wd.cell? ⟨C.B, 4, none⟩ = some (.slice (some ⟨C.L, 0, none⟩) C.sl.length C.sl.length) := by rw [hwd]; exact b4
      have nrow : wd.cell? ⟨C.L, pre.length, none⟩ = some (.slice Ai cur.length ci) := by rw [hwd]; exact hrow
      clear HI HJ HR b1 b4 hrow nb
      have HI := Lib.hid nHI
      have HJ := Lib.hid nHJ
      have HR := Lib.hid nHR
      have HS11 := Lib.hid (And.intro nb4 nrow)
      clear nHI nHJ nHR nb4 nrow
      refine start_ (n := 18) (S := fun w' => w'.cell? ⟨C.B, 4, none⟩ = some (.slice (some ⟨C.L, 0, none⟩) C.sl.length C.sl.length) ∧ w'.cell? ⟨C.L, pre.length, none⟩ = some (.slice Ai cur.length ci)) (ds := [17]) #[false, false, false, false, false, false, false, false, false, false, false, false, false, false, false, false, false, false] (by kernel_rfl) rfl rfl (by rw [← hwd]; exact HS11.out) (fun hHeld => ?_); refine with_tabW tab50_11 bits50_11 (fun HT_ HW_ => ?_)
      rw [← hwd] at hHeld ⊢; clear hwd
      refine pure_ (i := 0) (N := some 102) (v := ?_) (a' := ?_) #[true, false, false, false, false, false, false, false, false, false, false, false, false, false, false, false, false, false] rfl rfl (any_of HT_.out (by kernel_rfl)) (fun _ _ _ h => h) (Or.inl ⟨by rfl, ?_⟩) ?_ ?_
      rotate_left
      · intro w'
        go_simp
        with_reducible rfl
      rotate_left
      · simp only [Act.put, List.setIfInBounds_toArray, List.set_cons_zero, List.set_cons_succ, i64_w, i32_w]
        rfl
      refine pure_ (i := 1) (N := some 103) (v := ?_) (a' := ?_) #[true, true, false, false, false, false, false, false, false, false, false, false, false, false, false, false, false, false] rfl rfl (any_of HT_.out (by kernel_rfl)) (fun _ _ _ h => h) (Or.inl ⟨by rfl, ?_⟩) ?_ ?_
      rotate_left
      · intro w'
        go_simp
        with_reducible rfl
      rotate_left
      · simp only [Act.put, List.setIfInBounds_toArray, List.set_cons_zero, List.set_cons_succ, i64_w, i32_w]
        rfl
      refine pure_ (i := 2) (N := some 104) (v := ?_) (a' := ?_) #[true, true, true, false, false, false, false, false, false, false, false, false, false, false, false, false, false, false] rfl rfl (any_of HT_.out (by kernel_rfl)) (fun _ _ _ h => h) (Or.inl ⟨by rfl, ?_⟩) ?_ ?_
      rotate_left
      · intro w'
        go_simp
        with_reducible rfl
      rotate_left
      · simp only [Act.put, List.setIfInBounds_toArray, List.set_cons_zero, List.set_cons_succ, i64_w, i32_w]
        rfl
      refine take_ (i := 3) (N := some 105) (v := ?_) (a' := ?_) #[true, true, true, true, false, false, false, false, false, false, false, false, false, false, false, false, false, false] rfl rfl (take_ofW HT_.out HW_.out (by kernel_rfl)) (fun _ _ _ h => h) (Or.inl ⟨by rfl, ?_⟩) hHeld ?_ ?_
      rotate_left
      · rintro w' ⟨s0, s1⟩
        go_simp
        with_reducible rfl
      rotate_left
      · simp only [Act.put, List.setIfInBounds_toArray, List.set_cons_zero, List.set_cons_succ, i64_w, i32_w]
        rfl
      refine pure_ (i := 4) (N := some 106) (v := ?_) (a' := ?_) #[true, true, true, true, true, false, false, false, false, false, false, false, false, false, false, false, false, false] rfl rfl (any_of HT_.out (by kernel_rfl)) (fun _ _ _ h => h) (Or.inl ⟨by rfl, ?_⟩) ?_ ?_
      rotate_left
      · intro w'
        go_simp
        with_reducible rfl
      rotate_left
      · simp only [Act.put, List.setIfInBounds_toArray, List.set_cons_zero, List.set_cons_succ, i64_w, i32_w]
        rfl
      refine pure_ (i := 5) (N := some 107) (v := ?_) (a' := ?_) #[true, true, true, true, true, true, false, false, false, false, false, false, false, false, false, false, false, false] rfl rfl (any_of HT_.out (by kernel_rfl)) (fun _ _ _ h => h) (Or.inl ⟨by rfl, ?_⟩) ?_ ?_
      rotate_left
      · intro w'
        go_simp
        with_reducible rfl
      rotate_left
      · simp only [Act.put, List.setIfInBounds_toArray, List.set_cons_zero, List.set_cons_succ, i64_w, i32_w]
        rfl
      refine pure_ (i := 6) (N := some 108) (v := ?_) (a' := ?_) #[true, true, true, true, true, true, true, false, false, false, false, false, false, false, false, false, false, false] rfl rfl (any_of HT_.out (by kernel_rfl)) (fun _ _ _ h => h) (Or.inl ⟨by rfl, ?_⟩) ?_ ?_
      rotate_left
      · intro w'
        go_simp
        with_reducible rfl
      rotate_left
      · simp only [Act.put, List.setIfInBounds_toArray, List.set_cons_zero, List.set_cons_succ, i64_w, i32_w]
        rfl
      refine pure_ (i := 7) (N := some 109) (v := ?_) (a' := ?_) #[true, true, true, true, true, true, true, true, false, false, false, false, false, false, false, false, false, false] rfl rfl (any_of HT_.out (by kernel_rfl)) (fun _ _ _ h => h) (Or.inl ⟨by rfl, ?_⟩) ?_ ?_
      rotate_left
      · intro w'
        go_simp
        with_reducible rfl
      rotate_left
      · simp only [Act.put, List.setIfInBounds_toArray, List.set_cons_zero, List.set_cons_succ, i64_w, i32_w]
        rfl
      refine take_ (i := 8) (N := some 110) (v := ?_) (a' := ?_) #[true, true, true, true, true, true, true, true, true, false, false, false, false, false, false, false, false, false] rfl rfl (take_ofW HT_.out HW_.out (by kernel_rfl)) (fun _ _ _ h => h) (Or.inl ⟨by rfl, ?_⟩) hHeld ?_ ?_
      rotate_left
      · rintro w' ⟨s0, s1⟩
        go_simp
        with_reducible rfl
      rotate_left
      · simp only [Act.put, List.setIfInBounds_toArray, List.set_cons_zero, List.set_cons_succ, i64_w, i32_w]
        rfl
      refine pure_ (i := 9) (N := some 111) (v := ?_) (a' := ?_) #[true, true, true, true, true, true, true, true, true, true, false, false, false, false, false, false, false, false] rfl rfl (any_of HT_.out (by kernel_rfl)) (fun _ _ _ h => h) (Or.inl ⟨by rfl, ?_⟩) ?_ ?_
      rotate_left
      · intro w'
        go_simp
        with_reducible rfl
      rotate_left
      · simp only [Act.put, List.setIfInBounds_toArray, List.set_cons_zero, List.set_cons_succ, i64_w, i32_w]
        rfl
      refine pure_ (i := 10) (N := some 112) (v := ?_) (a' := ?_) #[true, true, true, true, true, true, true, true, true, true, true, false, false, false, false, false, false, false] rfl rfl (any_of HT_.out (by kernel_rfl)) (fun _ _ _ h => h) (Or.inl ⟨by rfl, ?_⟩) ?_ ?_
      rotate_left
      · intro w'
        go_simp
        with_reducible rfl
      rotate_left
      · simp only [Act.put, List.setIfInBounds_toArray, List.set_cons_zero, List.set_cons_succ, i64_w, i32_w]
        rfl
      refine take_ (i := 11) (N := some 113) (v := ?_) (a' := ?_) #[true, true, true, true, true, true, true, true, true, true, true, true, false, false, false, false, false, false] rfl rfl (take_ofW HT_.out HW_.out (by kernel_rfl)) (fun _ _ _ h => h) (Or.inl ⟨by rfl, ?_⟩) hHeld ?_ ?_
      rotate_left
      · rintro w' ⟨s0, s1⟩
        go_simp
        with_reducible rfl
      rotate_left
      · simp only [Act.put, List.setIfInBounds_toArray, List.set_cons_zero, List.set_cons_succ, i64_w, i32_w]
        rfl
      refine pure_ (i := 12) (N := some 114) (v := ?_) (a' := ?_) #[true, true, true, true, true, true, true, true, true, true, true, true, true, false, false, false, false, false] rfl rfl (any_of HT_.out (by kernel_rfl)) (fun _ _ _ h => h) (Or.inl ⟨by rfl, ?_⟩) ?_ ?_
      rotate_left
      · intro w'
        go_simp
        with_reducible rfl
      rotate_left
      · simp only [Act.put, List.setIfInBounds_toArray, List.set_cons_zero, List.set_cons_succ, i64_w, i32_w]
        rfl
      refine one_ (i := 13) (N := some 115) #[true, true, true, true, true, true, true, true, true, true, true, true, true, true, false, false, false, false] rfl rfl (one_of HT_.out (by kernel_rfl)) (by decide) (fun K hK => ?_)
      refine goes_ Try.func17 (by kernel_rfl) rfl #[.int .i64 rj] (by rfl) rfl rfl (by (try simp only [List.map_toArray, List.map_cons, List.map_nil]); first | done | rfl) ?_
      refine (enumerate_Unrank.calls rj (unrank rj) _ (unrank_f G5.out (by have := G6.out; omega))).mono ?_
      rintro e w3 ⟨rfl, hdr⟩
      refine ⟨_, rfl, ?_⟩
      have nb := hdr.below
      have nHI := HI.out.below nb
      have nHJ := hJ _ _ _ _ _ HJ.out (StepT.of_below nb) (Grows.refl _ _)
      have nHR := Kd.R_below HR.out nb
      have nb4 := (nb.cell (World.block_lt_of_cell? _ _ HS11.out.1)).trans HS11.out.1
      have nrow := (nb.cell (World.block_lt_of_cell? _ _ HS11.out.2)).trans HS11.out.2
      clear HI HJ HR HS11 nb hdr
      have HI := Lib.hid nHI
      have HJ := Lib.hid nHJ
      have HR := Lib.hid nHR
      have HS11 := Lib.hid (And.intro nb4 nrow)
      clear nHI nHJ nHR nb4 nrow
      refine hK.out _ _ HS11.out (fun hHeld => ?_)
      clear hK K
      refine norm_ (a' := ?_) ?_ ?_
      rotate_left
      · show Act.put _ (some 115) _ = _
        simp only [Act.put, List.setIfInBounds_toArray, List.set_cons_zero, List.set_cons_succ, i64_w, i32_w]
        rfl
      refine one_ (i := 14) (N := some 116) #[true, true, true, true, true, true, true, true, true, true, true, true, true, true, true, false, false, false] rfl rfl (one_of HT_.out (by kernel_rfl)) (by decide) (fun K hK => ?_)
      refine value_ (w1 := ?_) (v := ?_) (by rfl) rfl ?_ ?_
      rotate_left 2
      · go_simp
        constructor
        · rfl
        · rfl
      refine hK.out _ _ ⟨(World.cell?_alloc_lt _ _ _ (World.block_lt_of_cell? _ _ HS11.out.1)).trans HS11.out.1, (World.cell?_alloc_lt _ _ _ (World.block_lt_of_cell? _ _ HS11.out.2)).trans HS11.out.2⟩ (fun hHeld => ?_)
      clear hK K
      refine norm_ (a' := ?_) ?_ ?_
      rotate_left
      · show Act.put _ (some 116) _ = _
        simp only [Act.put, List.setIfInBounds_toArray, List.set_cons_zero, List.set_cons_succ, i64_w, i32_w]
        rfl
      refine one_ (i := 15) (N := some 117) #[true, true, true, true, true, true, true, true, true, true, true, true, true, true, true, true, false, false] rfl rfl (one_of HT_.out (by kernel_rfl)) (by decide) (fun K hK => ?_)
      refine Kd.R_append_step (Kd.int .i64) (w0 := w3) C.M0 (by rfl) (.tmp 113) (.tmp 116) 33 3 (.int .i64 0) 8 rfl Try.underlying33 info3 rfl (by decide) (by omega) (.slice Ai cur.length ci) cur (unrank rj) [.int .i64 (unrank rj)] (fun k => T' k ∨ w3.heap.size ≤ k) (fun _ => False) rfl rfl rfl (fun _ h => h.elim) (fun _ h => .inr h) (Kd.R_mono HR.out (fun _ h => .inl h)) (Below.refl _ _) HI.out.m (by have := HC2.out; omega) ?_
      intro v2 w2 ho2 hb2 hg2 hat2
      obtain ⟨A2, c2, e2⟩ := Kd.R_slice ho2
      subst e2
      have hq4 := (hb2.cell (p := ⟨C.B, 4, none⟩) hC.mB).trans HS11.out.1
      have hqr := (hb2.cell (p := ⟨C.L, pre.length, none⟩) hC.mL).trans HS11.out.2
      have hqf : w2.frozen? ⟨C.L, pre.length, none⟩ = false := by
        have h1 := HI.out.frozen pre.length
        have h2 : w2.heap[C.L]? = w3.heap[C.L]? := hb2.block C.L hC.mL
        rwa [show w2.frozen? ⟨C.L, pre.length, none⟩ = w3.frozen? ⟨C.L, pre.length, none⟩ by simp [World.frozen?, h2]]
      obtain ⟨hI2, hst2, hgr2⟩ := HI.out.app' hC HLT.out HS11.out.2 ho2 hg2 hat2
      have hJ2 := hJ _ _ _ _ _ HJ.out hst2 hgr2
      have HI2 := Lib.hid hI2
      have HJ2 := Lib.hid hJ2
      clear hI2 hst2 hgr2 hJ2 ho2 hb2 hg2 hat2 HI HJ HR HS11
      refine hK.out _ _ ⟨hq4, hqr⟩ (fun hHeld => ?_)
      clear hK K
      refine norm_ (a' := ?_) ?_ ?_
      rotate_left
      · show Act.put _ (some 117) _ = _
        simp only [Act.put, List.setIfInBounds_toArray, List.set_cons_zero, List.set_cons_succ, i64_w, i32_w]
        rfl
      refine pure_ (i := 16) (N := some 118) (v := ?_) (a' := ?_) #[true, true, true, true, true, true, true, true, true, true, true, true, true, true, true, true, true, false] rfl rfl (any_of HT_.out (by kernel_rfl)) (fun _ _ _ h => h) (Or.inl ⟨by rfl, ?_⟩) ?_ ?_
      rotate_left
      · intro w'
        go_simp
        with_reducible rfl
      rotate_left
      · simp only [Act.put, List.setIfInBounds_toArray, List.set_cons_zero, List.set_cons_succ, i64_w, i32_w]
        rfl
      refine last_ (i := 17) (N := none) #[true, true, true, true, true, true, true, true, true, true, true, true, true, true, true, true, true, true] rfl rfl (one_of HT_.out (by kernel_rfl)) (by decide) (fun K hK => ?_)
      refine skip_ (w1 := ?_) (by rfl) rfl ?_ ?_
      rotate_left
      · go_simp
        rfl
      refine hK.out _ _ ?_
      obtain ⟨T2, hT2⟩ : ∃ T2 : Nat → Prop, T2 = fun k => T' k ∨ (w3.heap.size ≤ k ∧ k < w2.heap.size) := ⟨_, rfl⟩
      rw [← hT2] at HI2 HJ2
      obtain ⟨W2, hW2⟩ : ∃ W2, W2 = w2.setCell ⟨C.L, pre.length, none⟩ (.slice A2 (cur ++ [unrank rj]).length c2) := ⟨_, rfl⟩
      rw [← hW2] at HI2 HJ2
      generalize hW2' : w2.setCell _ _ = W2'
      have hW3 : W2' = W2 := by rw [hW2, ← hW2']; simp
      clear hW2' hW2 hT2 hq4 hqr hqf
      rw [hW3]
      clear hW3 W2'
      clear hK K
      refine done_ (done_of HT_.out (by kernel_rfl)) ?_
      go_wp2_with (fail)
      refine (ih pre (cur ++ [unrank rj]) mI wn T2 W2 (done ++ (rs.take j).flatMap F) HD.out HLEN.out HPL.out (by have := HC2.out; have := HCL.out; simp; omega) (by rw [HMI.out]; simp; omega) (by rw [G9.out]; exact G78.out.1) (by rw [G9.out]; exact G78.out.2) HJ2.out HI2.out).mono ?_
      clear HI2 HJ2
      rintro e W3 ⟨b, T3, rfl, hres, hinv⟩
      obtain ⟨cx, hcx⟩ : ∃ cx, cx = cur ++ [unrank rj] := ⟨_, rfl⟩
      rw [← hcx] at hinv
      have hcxl : cx.length = cur.length + 1 := by rw [hcx]; simp
      have hcxt : cx.take cur.length = cur := by rw [hcx]; simp
      obtain ⟨Ai3, ci3, hrow, hR3, hcc3⟩ := hinv.at_ HLT.out
      obtain ⟨g3, c3, hform, _⟩ := Kd.R_form hR3 (by omega)
      have e12 : wrap64 ((cx.length : Int) - 1) = (cur.length : Int) := by rw [hcxl, wrap64_of' (by have := HC2.out; omega) (by have := HC2.out; omega)]; omega
      have p9 : (0 ≤ (cur.length : Int)) = True := eq_true (by omega)
      injection hform with hf1 _ hf3
      subst hf1
      subst hf3
      have pa : ((cur.length : Int) ≤ (ci3 : Int)) = True := eq_true (by omega)
      have pb : (cur.length ≤ ci3) = True := eq_true (by omega)
      have pc : (cur.length ≤ cx.length) = True := eq_true (by omega)
      obtain ⟨_, _, _, _, b4, _⟩ := hinv.c.cell
      have hqf := hinv.frozen pre.length
      have HCXL := Lib.hid hcxl
      have HCX := Lib.hid hcx
      have HCXT := Lib.hid hcxt
      have HRES := Lib.hid hres
      have HINV := Lib.hid hinv
      have HS13 := Lib.hid (And.intro b4 hrow)
      clear hcxl hcx hcxt hres hinv hR3 hcc3 b4 hrow hqf
      go_upto_region 13 with (fail)
      have nb : Below W3.heap.size W3 W3.drew := below_drew1 (Below.refl _ _)
      obtain ⟨wd, hwd⟩ : ∃ wd, wd = W3.drew := ⟨_, rfl⟩
      rw [← hwd] at nb
      have nHI := HINV.out.below nb
      have nHJ := HRES.out.step hJ hJx (StepT.of_below nb) (Grows.refl _ _)
      have nb4 := (nb.cell (World.block_lt_of_cell? _ _ HS13.out.1)).trans HS13.out.1
      have nrow := (nb.cell (World.block_lt_of_cell? _ _ HS13.out.2)).trans HS13.out.2
      clear HINV HRES HS13 nb
      have HINV := Lib.hid nHI
      have HRES := Lib.hid nHJ
      have HS13 := Lib.hid (And.intro nb4 nrow)
      clear nHI nHJ nb4 nrow
      refine start_ (n := 24) (S := fun w' => w'.cell? ⟨C.B, 4, none⟩ = some (.slice (some ⟨C.L, 0, none⟩) C.sl.length C.sl.length) ∧ w'.cell? ⟨C.L, pre.length, none⟩ = some (.slice (some ⟨g3, 0, none⟩) cx.length ci3)) (ds := [23]) #[false, false, false, false, false, false, false, false, false, false, false, false, false, false, false, false, false, false, false, false, false, false, false, false] (by kernel_rfl) rfl rfl (by rw [← hwd]; exact HS13.out) (fun hHeld => ?_); refine with_tabW tab50_13 bits50_13 (fun HT_ HW_ => ?_)
      rw [← hwd] at hHeld ⊢; clear hwd
      refine pure_ (i := 0) (N := some 127) (v := ?_) (a' := ?_) #[true, false, false, false, false, false, false, false, false, false, false, false, false, false, false, false, false, false, false, false, false, false, false, false] rfl rfl (any_of HT_.out (by kernel_rfl)) (fun _ _ _ h => h) (Or.inl ⟨by rfl, ?_⟩) ?_ ?_
      rotate_left
      · intro w'
        go_simp
        with_reducible rfl
      rotate_left
      · simp only [Act.put, List.setIfInBounds_toArray, List.set_cons_zero, List.set_cons_succ, i64_w, i32_w]
        rfl
      refine pure_ (i := 1) (N := some 128) (v := ?_) (a' := ?_) #[true, true, false, false, false, false, false, false, false, false, false, false, false, false, false, false, false, false, false, false, false, false, false, false] rfl rfl (any_of HT_.out (by kernel_rfl)) (fun _ _ _ h => h) (Or.inl ⟨by rfl, ?_⟩) ?_ ?_
      rotate_left
      · intro w'
        go_simp
        with_reducible rfl
      rotate_left
      · simp only [Act.put, List.setIfInBounds_toArray, List.set_cons_zero, List.set_cons_succ, i64_w, i32_w]
        rfl
      refine pure_ (i := 2) (N := some 129) (v := ?_) (a' := ?_) #[true, true, true, false, false, false, false, false, false, false, false, false, false, false, false, false, false, false, false, false, false, false, false, false] rfl rfl (any_of HT_.out (by kernel_rfl)) (fun _ _ _ h => h) (Or.inl ⟨by rfl, ?_⟩) ?_ ?_
      rotate_left
      · intro w'
        go_simp
        with_reducible rfl
      rotate_left
      · simp only [Act.put, List.setIfInBounds_toArray, List.set_cons_zero, List.set_cons_succ, i64_w, i32_w]
        rfl
      refine take_ (i := 3) (N := some 130) (v := ?_) (a' := ?_) #[true, true, true, true, false, false, false, false, false, false, false, false, false, false, false, false, false, false, false, false, false, false, false, false] rfl rfl (take_ofW HT_.out HW_.out (by kernel_rfl)) (fun _ _ _ h => h) (Or.inl ⟨by rfl, ?_⟩) hHeld ?_ ?_
      rotate_left
      · rintro w' ⟨s0, s1⟩
        go_simp
        with_reducible rfl
      rotate_left
      · simp only [Act.put, List.setIfInBounds_toArray, List.set_cons_zero, List.set_cons_succ, i64_w, i32_w]
        rfl
      refine pure_ (i := 4) (N := some 131) (v := ?_) (a' := ?_) #[true, true, true, true, true, false, false, false, false, false, false, false, false, false, false, false, false, false, false, false, false, false, false, false] rfl rfl (any_of HT_.out (by kernel_rfl)) (fun _ _ _ h => h) (Or.inl ⟨by rfl, ?_⟩) ?_ ?_
      rotate_left
      · intro w'
        go_simp
        with_reducible rfl
      rotate_left
      · simp only [Act.put, List.setIfInBounds_toArray, List.set_cons_zero, List.set_cons_succ, i64_w, i32_w]
        rfl
      refine pure_ (i := 5) (N := some 132) (v := ?_) (a' := ?_) #[true, true, true, true, true, true, false, false, false, false, false, false, false, false, false, false, false, false, false, false, false, false, false, false] rfl rfl (any_of HT_.out (by kernel_rfl)) (fun _ _ _ h => h) (Or.inl ⟨by rfl, ?_⟩) ?_ ?_
      rotate_left
      · intro w'
        go_simp
        with_reducible rfl
      rotate_left
      · simp only [Act.put, List.setIfInBounds_toArray, List.set_cons_zero, List.set_cons_succ, i64_w, i32_w]
        rfl
      refine pure_ (i := 6) (N := some 133) (v := ?_) (a' := ?_) #[true, true, true, true, true, true, true, false, false, false, false, false, false, false, false, false, false, false, false, false, false, false, false, false] rfl rfl (any_of HT_.out (by kernel_rfl)) (fun _ _ _ h => h) (Or.inl ⟨by rfl, ?_⟩) ?_ ?_
      rotate_left
      · intro w'
        go_simp
        with_reducible rfl
      rotate_left
      · simp only [Act.put, List.setIfInBounds_toArray, List.set_cons_zero, List.set_cons_succ, i64_w, i32_w]
        rfl
      refine pure_ (i := 7) (N := some 134) (v := ?_) (a' := ?_) #[true, true, true, true, true, true, true, true, false, false, false, false, false, false, false, false, false, false, false, false, false, false, false, false] rfl rfl (any_of HT_.out (by kernel_rfl)) (fun _ _ _ h => h) (Or.inl ⟨by rfl, ?_⟩) ?_ ?_
      rotate_left
      · intro w'
        go_simp
        with_reducible rfl
      rotate_left
      · simp only [Act.put, List.setIfInBounds_toArray, List.set_cons_zero, List.set_cons_succ, i64_w, i32_w]
        rfl
      refine take_ (i := 8) (N := some 135) (v := ?_) (a' := ?_) #[true, true, true, true, true, true, true, true, true, false, false, false, false, false, false, false, false, false, false, false, false, false, false, false] rfl rfl (take_ofW HT_.out HW_.out (by kernel_rfl)) (fun _ _ _ h => h) (Or.inl ⟨by rfl, ?_⟩) hHeld ?_ ?_
      rotate_left
      · rintro w' ⟨s0, s1⟩
        go_simp
        with_reducible rfl
      rotate_left
      · simp only [Act.put, List.setIfInBounds_toArray, List.set_cons_zero, List.set_cons_succ, i64_w, i32_w]
        rfl
      refine pure_ (i := 9) (N := some 136) (v := ?_) (a' := ?_) #[true, true, true, true, true, true, true, true, true, true, false, false, false, false, false, false, false, false, false, false, false, false, false, false] rfl rfl (any_of HT_.out (by kernel_rfl)) (fun _ _ _ h => h) (Or.inl ⟨by rfl, ?_⟩) ?_ ?_
      rotate_left
      · intro w'
        go_simp
        with_reducible rfl
      rotate_left
      · simp only [Act.put, List.setIfInBounds_toArray, List.set_cons_zero, List.set_cons_succ, i64_w, i32_w]
        rfl
      refine pure_ (i := 10) (N := some 137) (v := ?_) (a' := ?_) #[true, true, true, true, true, true, true, true, true, true, true, false, false, false, false, false, false, false, false, false, false, false, false, false] rfl rfl (any_of HT_.out (by kernel_rfl)) (fun _ _ _ h => h) (Or.inl ⟨by rfl, ?_⟩) ?_ ?_
      rotate_left
      · intro w'
        go_simp
        with_reducible rfl
      rotate_left
      · simp only [Act.put, List.setIfInBounds_toArray, List.set_cons_zero, List.set_cons_succ, i64_w, i32_w]
        rfl
      refine take_ (i := 11) (N := some 138) (v := ?_) (a' := ?_) #[true, true, true, true, true, true, true, true, true, true, true, true, false, false, false, false, false, false, false, false, false, false, false, false] rfl rfl (take_ofW HT_.out HW_.out (by kernel_rfl)) (fun _ _ _ h => h) (Or.inl ⟨by rfl, ?_⟩) hHeld ?_ ?_
      rotate_left
      · rintro w' ⟨s0, s1⟩
        go_simp
        with_reducible rfl
      rotate_left
      · simp only [Act.put, List.setIfInBounds_toArray, List.set_cons_zero, List.set_cons_succ, i64_w, i32_w]
        rfl
      refine pure_ (i := 12) (N := some 139) (v := ?_) (a' := ?_) #[true, true, true, true, true, true, true, true, true, true, true, true, true, false, false, false, false, false, false, false, false, false, false, false] rfl rfl (any_of HT_.out (by kernel_rfl)) (fun _ _ _ h => h) (Or.inl ⟨by rfl, ?_⟩) ?_ ?_
      rotate_left
      · intro w'
        go_simp
        with_reducible rfl
      rotate_left
      · simp only [Act.put, List.setIfInBounds_toArray, List.set_cons_zero, List.set_cons_succ, i64_w, i32_w]
        rfl
      refine pure_ (i := 13) (N := some 140) (v := ?_) (a' := ?_) #[true, true, true, true, true, true, true, true, true, true, true, true, true, true, false, false, false, false, false, false, false, false, false, false] rfl rfl (any_of HT_.out (by kernel_rfl)) (fun _ _ _ h => h) (Or.inl ⟨by rfl, ?_⟩) ?_ ?_
      rotate_left
      · intro w'
        go_simp
        with_reducible rfl
      rotate_left
      · simp only [Act.put, List.setIfInBounds_toArray, List.set_cons_zero, List.set_cons_succ, i64_w, i32_w]
        rfl
      refine pure_ (i := 14) (N := some 141) (v := ?_) (a' := ?_) #[true, true, true, true, true, true, true, true, true, true, true, true, true, true, true, false, false, false, false, false, false, false, false, false] rfl rfl (any_of HT_.out (by kernel_rfl)) (fun _ _ _ h => h) (Or.inl ⟨by rfl, ?_⟩) ?_ ?_
      rotate_left
      · intro w'
        go_simp
        with_reducible rfl
      rotate_left
      · simp only [Act.put, List.setIfInBounds_toArray, List.set_cons_zero, List.set_cons_succ, i64_w, i32_w]
        rfl
      refine take_ (i := 15) (N := some 142) (v := ?_) (a' := ?_) #[true, true, true, true, true, true, true, true, true, true, true, true, true, true, true, true, false, false, false, false, false, false, false, false] rfl rfl (take_ofW HT_.out HW_.out (by kernel_rfl)) (fun _ _ _ h => h) (Or.inl ⟨by rfl, ?_⟩) hHeld ?_ ?_
      rotate_left
      · rintro w' ⟨s0, s1⟩
        go_simp
        with_reducible rfl
      rotate_left
      · simp only [Act.put, List.setIfInBounds_toArray, List.set_cons_zero, List.set_cons_succ, i64_w, i32_w]
        rfl
      refine pure_ (i := 16) (N := some 143) (v := ?_) (a' := ?_) #[true, true, true, true, true, true, true, true, true, true, true, true, true, true, true, true, true, false, false, false, false, false, false, false] rfl rfl (any_of HT_.out (by kernel_rfl)) (fun _ _ _ h => h) (Or.inl ⟨by rfl, ?_⟩) ?_ ?_
      rotate_left
      · intro w'
        go_simp
        with_reducible rfl
      rotate_left
      · simp only [Act.put, List.setIfInBounds_toArray, List.set_cons_zero, List.set_cons_succ, i64_w, i32_w]
        rfl
      refine pure_ (i := 17) (N := some 144) (v := ?_) (a' := ?_) #[true, true, true, true, true, true, true, true, true, true, true, true, true, true, true, true, true, true, false, false, false, false, false, false] rfl rfl (any_of HT_.out (by kernel_rfl)) (fun _ _ _ h => h) (Or.inl ⟨by rfl, ?_⟩) ?_ ?_
      rotate_left
      · intro w'
        go_simp
        with_reducible rfl
      rotate_left
      · simp only [Act.put, List.setIfInBounds_toArray, List.set_cons_zero, List.set_cons_succ, i64_w, i32_w]
        rfl
      refine take_ (i := 18) (N := some 145) (v := ?_) (a' := ?_) #[true, true, true, true, true, true, true, true, true, true, true, true, true, true, true, true, true, true, true, false, false, false, false, false] rfl rfl (take_ofW HT_.out HW_.out (by kernel_rfl)) (fun _ _ _ h => h) (Or.inl ⟨by rfl, ?_⟩) hHeld ?_ ?_
      rotate_left
      · rintro w' ⟨s0, s1⟩
        go_simp
        with_reducible rfl
      rotate_left
      · simp only [Act.put, List.setIfInBounds_toArray, List.set_cons_zero, List.set_cons_succ, i64_w, i32_w]
        rfl
      refine pure_ (i := 19) (N := some 146) (v := ?_) (a' := ?_) #[true, true, true, true, true, true, true, true, true, true, true, true, true, true, true, true, true, true, true, true, false, false, false, false] rfl rfl (any_of HT_.out (by kernel_rfl)) (fun _ _ _ h => h) (Or.inl ⟨by rfl, ?_⟩) ?_ ?_
      rotate_left
      · intro w'
        go_simp
        with_reducible rfl
      rotate_left
      · simp only [Act.put, List.setIfInBounds_toArray, List.set_cons_zero, List.set_cons_succ, i64_w, i32_w]
        rfl
      refine pure_ (i := 20) (N := some 147) (v := ?_) (a' := ?_) #[true, true, true, true, true, true, true, true, true, true, true, true, true, true, true, true, true, true, true, true, true, false, false, false] rfl rfl (any_of HT_.out (by kernel_rfl)) (fun _ _ _ h => h) (Or.inl ⟨by rfl, ?_⟩) ?_ ?_
      rotate_left
      · intro w'
        go_simp
        with_reducible rfl
      rotate_left
      · simp only [Act.put, List.setIfInBounds_toArray, List.set_cons_zero, List.set_cons_succ, i64_w, i32_w]
        rfl
      refine pure_ (i := 21) (N := some 148) (v := ?_) (a' := ?_) #[true, true, true, true, true, true, true, true, true, true, true, true, true, true, true, true, true, true, true, true, true, true, false, false] rfl rfl (any_of HT_.out (by kernel_rfl)) (fun _ _ _ h => h) (Or.inl ⟨by rfl, ?_⟩) ?_ ?_
      rotate_left
      · intro w'
        go_simp
        with_reducible rfl
      rotate_left
      · simp only [Act.put, List.setIfInBounds_toArray, List.set_cons_zero, List.set_cons_succ, i64_w, i32_w]
        rfl
      refine pure_ (i := 22) (N := some 149) (v := ?_) (a' := ?_) #[true, true, true, true, true, true, true, true, true, true, true, true, true, true, true, true, true, true, true, true, true, true, true, false] rfl rfl (any_of HT_.out (by kernel_rfl)) (fun _ _ _ h => h) (Or.inl ⟨by rfl, ?_⟩) ?_ ?_
      rotate_left
      · intro w'
        go_simp
        with_reducible rfl
      rotate_left
      · simp only [Act.put, List.setIfInBounds_toArray, List.set_cons_zero, List.set_cons_succ, i64_w, i32_w]
        rfl
      refine last_ (i := 23) (N := none) #[true, true, true, true, true, true, true, true, true, true, true, true, true, true, true, true, true, true, true, true, true, true, true, true] rfl rfl (one_of HT_.out (by kernel_rfl)) (by decide) (fun K hK => ?_)
      have hqf := HINV.out.frozen pre.length
      have hqc := HS13.out.2
      refine skip_ (w1 := ?_) (by rfl) rfl ?_ ?_
      rotate_left
      · go_simp
        rfl
      refine hK.out _ _ ?_
      have hI4 := HINV.out.cut' hC HLT.out HS13.out.2 cur.length (by have := HCXL.out; omega)
      have hR4 := HRES.out.step hJ hJx (HINV.out.stepCut pre.length (.slice (some ⟨g3, 0, none⟩) cur.length ci3)) (Grows.refl _ _)
      clear hqf hqc
      clear hK K
      refine done_ (done_of HT_.out (by kernel_rfl)) ?_
      have hI5 := hI4
      rw [HCXT.out] at hI5
      have HI5 := Lib.hid hI5
      have HR4 := Lib.hid hR4
      clear hI4 hI5 hR4 HINV HRES HS13 hHeld
      have hF9 : F rj = (elemO C.rk (lowOf rest) (highOf C.rk rest) (slotO C.rk rest) left wn).map fun q => pre ++ ((cur ++ [unrank rj]) ++ q.1) :: q.2 := by rw [HF.out, G9.out]
      have HF9 := Lib.hid hF9
      clear hF9
      cases b with
      | true =>
        go_wp2
        go_roundg (rs.length - (j + 1))
        case measure => have := HKJ.out; have := HJL.out; omega
        case rel =>
          refine ⟨j + 1, T3, by have := HKJ.out; have := HJL.out; omega, by rw [G4.out], ⟨?_⟩, ⟨HI5.out⟩⟩
          rw [flat_take rs F j HJL.out, HGET.out j HJL.out, ← HRJ.out, HF9.out]
          exact HR4.out.thru
      | false =>
        go_wp2
        go_ret
        refine ⟨false, T3, rfl, ?_, HI5.out⟩
        rw [flat_all rs F j HJL.out, HGET.out j HJL.out, ← HRJ.out, HF9.out]
        exact HR4.out.stop
    · obtain ⟨rj, hrj⟩ : ∃ rj : Int, rj = r0 + (j : Int) := ⟨_, rfl⟩
      have hje : j = rs.length := by omega
      have hend := HEND.out
      rw [← hje, ← hrj] at hend
      rw [← hrj]
      have HJE := Lib.hid hje
      clear hrj hje hjl hkj
      have hfin : SPost C J Jx done (rs.flatMap F) (pre ++ cur :: List.replicate rest.length []) (.returned (.bool true)) wr := by
        refine ⟨true, T', rfl, .inl ⟨rfl, ?_⟩, HI.out⟩
        have h1 := HJ.out
        rw [HJE.out, List.take_of_length_le (Nat.le_refl _)] at h1
        exact h1
      have HFIN := Lib.hid hfin
      clear hfin
      by_cases g1 : rj ≤ C.rk
      · obtain ⟨g2, d3, g3⟩ : wrap64 (wm - rj) = wm - rj ∧ wrap64 (wt - 1 - rj) = wm - rj ∧ wm - rj < lw := by
          rcases hend with h | h
          · exact absurd g1 (by omega)
          · exact h.2
        obtain ⟨wn, hwn⟩ : ∃ wn : Int, wn = wm - rj := ⟨_, rfl⟩
        rw [← hwn] at g2 g3 d3
        have d1 : decide (rj ≤ C.rk) = true := decide_eq_true g1
        have d2 : decide (lw ≤ wn) = false := decide_eq_false (by omega)
        clear hend hwn g1 g3
        go_wp2
        go_ret
        exact HFIN.out
      · have d1 : decide (rj ≤ C.rk) = false := decide_eq_false g1
        clear hend g1
        go_wp2
        go_ret
        exact HFIN.out
end Go.Proofs.Ytgcdeablfoomhaa.PAll
