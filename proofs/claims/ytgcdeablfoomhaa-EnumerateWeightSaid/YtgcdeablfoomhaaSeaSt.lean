/- search.state: a copy of the lists, as a new state. -/
import Derived.Test.YtgcdeablfoomhaaSea0
set_option linter.unusedVariables false
set_option linter.unusedSimpArgs false
namespace Go.Proofs.Ytgcdeablfoomhaa.PAll
open Go.RowKit Go.Proofs.YtgcdeablfoomhaaW.PrintWords Go.Proofs.YtgcdeablfoomhaaW.PrintLast Go.Proofs.YtgcdeablfoomhaaW.PrintMore
attribute [local go_sem] max2_int min2_int max_two min_two max_three min_three max_four min_four
theorem tab49_7 : rtab .any (opsOf Try.f49 7) = (true, [([], []), ([0], [0]), ([], []), ([], []), ([], []), ([4], [4]), ([5], [5]), ([6], [6]), ([], []), ([7, 8], [7, 8]), ([9], [9]), ([3, 10], [3, 10]), ([1, 2, 0, 1, 2, 3, 4, 5, 6, 7, 8, 9, 10, 11], [1, 2]), ([12, 11, 11, 0, 1, 2, 3, 4, 5, 6, 7, 8, 9, 10, 11], [11, 12])]) := by kernel_rfl
theorem bits49_7 : waitsOk (true, [([], []), ([0], [0]), ([], []), ([], []), ([], []), ([4], [4]), ([5], [5]), ([6], [6]), ([], []), ([7, 8], [7, 8]), ([9], [9]), ([3, 10], [3, 10]), ([1, 2, 0, 1, 2, 3, 4, 5, 6, 7, 8, 9, 10, 11], [1, 2]), ([12, 11, 11, 0, 1, 2, 3, 4, 5, 6, 7, 8, 9, 10, 11], [11, 12])]).2 [0, 1, 0, 0, 0, 16, 48, 112, 0, 496, 1008, 2040, 4095, 8191] = true := by decide +kernel

theorem rd_L4_init {cs : List (List Int)} {inp : List Int} {j : Nat} (h : j < cs.length) : rd_L4 (cs ++ [inp]) (j : Int) = cs[j] := by
  unfold rd_L4; simp [List.getD_eq_getElem?_getD, List.getElem?_append_left h, h]
theorem rd_L4_last {cs : List (List Int)} {inp : List Int} : rd_L4 (cs ++ [inp]) (cs.length : Int) = inp := by
  unfold rd_L4; simp
theorem take_put {cs : List (List Int)} {inp : List Int} {j : Nat} (h : j < cs.length) : (cs.take j ++ List.replicate (cs.length - j) []).set j (rd_L4 (cs ++ [inp]) (j : Int)) = cs.take (j + 1) ++ List.replicate (cs.length - (j + 1)) [] := by
  rw [rd_L4_init h]
  obtain ⟨q, hq⟩ : ∃ q, cs.length - j = q + 1 := ⟨cs.length - j - 1, by omega⟩
  have hq2 : cs.length - (j + 1) = q := by omega
  rw [hq, hq2, List.replicate_succ, List.take_succ_eq_append_getElem h, List.set_append_right _ _ (by simp; omega), List.length_take, Nat.min_eq_left (Nat.le_of_lt h), Nat.sub_self]
  simp only [List.set_cons_zero, List.append_assoc, List.singleton_append]
theorem rd_L4_le {xs : List (List Int)} (h : ∀ r ∈ xs, r.length ≤ 5000) (i : Int) : (rd_L4 xs i).length ≤ 5000 := by
  unfold rd_L4
  rw [List.getD_eq_getElem?_getD]
  cases he : xs[i.toNat]? with
  | none => simp
  | some r => exact h r (List.mem_of_getElem? he)

theorem R_form' {α : Type} {d : Kd α} {e : Nat} {W : World} {base : Nat} {ok : Nat → Prop} {v : Value} {xs : List α} (h : d.R e W base ok v xs) (hb : ∃ b, v.ownBlock = some b ∧ W.heap.size ≤ b + 1 ∨ v.ownBlock = some b) : ∃ g cap, v = .slice (some ⟨g, 0, none⟩) xs.length cap ∧ base ≤ g := by
  obtain ⟨b, hb⟩ := hb
  have hb : v.ownBlock = some b := by rcases hb with h1 | h1 <;> first | exact h1.1 | exact h1
  obtain ⟨_, inner, ho, hr⟩ := h
  rcases ho.2 with ⟨rfl, _⟩ | ⟨g, cap, cur, rfl, hg, _⟩
  · simp [Value.ownBlock] at hb
  · exact ⟨g, cap, rfl, hg⟩
/-- What search.state hands back. -/
def StPost (w : World) (cs : List (List Int)) (inp : List Int) (e : Ending) (w' : World) : Prop :=
  ∃ v0 v1 : Value, e = .returned (.agg #[v0, v1, nil3]) ∧ Kd.R (Kd.slice 3 (Kd.int .i64)) 33 w' w.heap.size (fun _ => True) v0 cs ∧ Kd.R (Kd.int .i64) 3 w' w.heap.size (fun _ => True) v1 inp ∧ Below w.heap.size w w'

set_option maxRecDepth 100000 in
set_option maxHeartbeats 8000000 in
theorem sea_state (cs : List (List Int)) (inp : List Int) (B : Nat) (AL : Option Addr) (cL : Nat) (w : World) (hf : w.cell? ⟨B, 4, none⟩ = some (.slice AL (cs.length + 1) cL)) (hr : Kd.C (Kd.slice 3 (Kd.int .i64)) w AL (cs.length + 1) (cs ++ [inp]))
    (hn : cs.length ≤ 1000) (hl : ∀ r ∈ cs ++ [inp], r.length ≤ 5000) :
    Calls Try.prog 49 #[.pointer (some ⟨B, 0, none⟩)] w fun e w' => StPost w cs inp e w' := by
  obtain ⟨M0, hM0⟩ : ∃ M0, M0 = w.heap.size := ⟨_, rfl⟩
  have hBlt : B < w.heap.size := World.block_lt_of_cell? w _ hf
  have hw1n : wrap64 (((cs.length + 1 : Nat) : Int) - 1) = (cs.length : Int) := by rw [wrap64_of' (by omega) (by omega)]; omega
  have hw1n' : wrap64 ((cs.length : Int) + 1 - 1) = (cs.length : Int) := by rw [wrap64_of' (by omega) (by omega)]; omega
  have HF := Lib.hid hf
  have HR := Lib.hid hr
  have HRL := Lib.hid (rd_L4_le hl)
  clear hf hr hl
  go_enter Try.func49, Try.ntmps49
  go_upto_region 2 with (fail)
  obtain ⟨w1, hw1⟩ : ∃ w1, w1 = (w.alloc (.cells #[nil3, nil3, nil3] 35)).alloc (.cells #[nil3, nil3, nil3] 35) := ⟨_, rfl⟩
  rw [← hw1]
  have hz1 : BoxA w1 w.heap.size nil3 nil3 nil3 := by rw [hw1]; exact (BoxA.new w _ _ _).alloc _
  obtain ⟨Qb, hQb⟩ : ∃ Qb, Qb = w.heap.size + 1 := ⟨_, rfl⟩
  rw [← hQb]
  have hq1 : BoxA w1 Qb nil3 nil3 nil3 := by
    rw [hw1, hQb]
    have := BoxA.new (w.alloc (.cells #[nil3, nil3, nil3] 35)) nil3 nil3 nil3
    rwa [World.size_alloc] at this
  have hb1 : Below w.heap.size w w1 := by rw [hw1]; exact below_alloc (below_alloc (Below.refl _ _) _) _
  have hf1 := (hb1.cell (p := ⟨B, 4, none⟩) hBlt).trans HF.out
  have hcQ := hq1.c0
  have hfQ := hq1.f0
  have hBQ : (B = Qb) = False := eq_false (by omega)
  have hBQ' : B ≠ Qb := by omega
  have HQB := Lib.hid hQb
  have HM0 := Lib.hid hM0
  clear hQb hM0
  have HZ := Lib.hid hz1
  have HQ := Lib.hid hq1
  have HB := Lib.hid hb1
  clear hz1 hq1 hb1 hw1
  go_upto_region 3 with (fail)
  go_wp2_with ((with_reducible refine gate_dst (N := 13) rfl ?_); refine Kd.R_make (Kd.slice 3 (Kd.int .i64)) (w0 := w1) w1.heap.size 33 rfl (N := 13) rfl 32 _ _ rfl (cs.length : Int) rfl rfl Try.underlying32 (.slice none 0 0) 24 info33 rfl (by decide) (by omega) ([] : List Int) (ok := fun _ => True) (okp := fun _ => True) ⟨nil3, rfl, Kd.R_nil _ _ _ _ _⟩ (fun _ hk => hk) trivial (by omega) (by simp; omega) (Below.refl _ _) (Nat.le_refl _) ?_; intro v3 w3 ho3 hb3 hg3 hnew3; have hz3 := HZ.out.below hb3 HZ.out.lt; have hq3 := HQ.out.below hb3 HQ.out.lt; have hcq3 := hq3.c0; have hfq3 := hq3.f0; have hbw3 := HB.out.trans (hb3.mono HB.out.size); obtain ⟨G, cG, ev3, hGm⟩ := R_form' ho3 (by obtain ⟨b_, h1_, _⟩ := hnew3; exact ⟨b_, .inr h1_⟩); subst ev3)
  have hrg : Kd.R (Kd.slice 3 (Kd.int .i64)) 33 w3 M0 (fun _ => True) (.slice (some ⟨G, 0, none⟩) cs.length cG) (List.replicate cs.length []) := by
    have := Kd.R_lower ho3 (base' := M0) (by rw [HM0.out]; exact HB.out.size)
    simpa using this
  simp only [Int.toNat_natCast, List.length_replicate] at hnew3 ⊢
  have hGM : M0 ≤ G := by rw [HM0.out]; have := HB.out.size; omega
  clear ho3 hnew3 hg3 hcQ hfQ hf1 hcq3 hfq3 hGm
  have HGM := Lib.hid hGM
  have HRG0 := Lib.hid hrg
  have HZ3 := Lib.hid hz3
  have HQ3 := Lib.hid hq3
  have HB3 := Lib.hid hbw3
  clear hGM hrg hz3 hq3 hbw3 hb3 HZ HQ HB
  go_loopg [18] cs.length (fun kq v18 wr => ∃ (j : Nat), kq + j = cs.length ∧ v18 = .int .i64 j ∧ Aside0 (Kd.R (Kd.slice 3 (Kd.int .i64)) 33 wr M0 (fun _ => True) (.slice (some ⟨G, 0, none⟩) cs.length cG) (cs.take j ++ List.replicate (cs.length - j) [])) ∧
      Aside0 (BoxA wr Qb (.slice (some ⟨G, 0, none⟩) cs.length cG) nil3 nil3) ∧ Aside0 (BoxA wr w.heap.size nil3 nil3 nil3) ∧ Aside0 (Below w.heap.size w wr))
  case atStart => exact ⟨0, rfl, rfl, ⟨R_setA (j := 0) (u := .slice (some ⟨G, 0, none⟩) cs.length cG) HRG0.out HQ3.out⟩, ⟨HQ3.out.set0 (.slice (some ⟨G, 0, none⟩) cs.length cG)⟩, ⟨HZ3.out.far (by show w.heap.size ≠ Qb; rw [HQB.out]; omega) _⟩, ⟨HB3.out.setCell (p := ⟨Qb, 0, none⟩) (by show w.heap.size ≤ Qb; rw [HQB.out]; omega) _⟩⟩
  case round =>
    clear HRG0 HZ3 HQ3 HB3
    obtain ⟨j, hjk, rfl, HRG, HBQ, HBZ, HB⟩ := hrel
    have hf1 := (HB.out.cell (p := ⟨B, 4, none⟩) hBlt).trans HF.out
    have HBL := Lib.hid hBlt
    clear hBlt
    by_cases hj : j < cs.length
    · have hi1 : decide ((j : Int) < (cs.length : Int)) = true := decide_eq_true (by omega)
      have hid : decide (j < cs.length) = true := decide_eq_true hj
      obtain ⟨ad, Ai, ci, hA, hxc, hxl, hxr⟩ := at_L4 (Kd.C_below HR.out HB.out) (j : Int) (by omega) (by omega)
      subst hA
      simp only [Int.toNat_natCast] at hxc
      have HXL := Lib.hid hxl
      have HRJ0 := Lib.hid hxr
      have HXC := Lib.hid hxc
      have HF1 := Lib.hid hf1
      clear hxl hxr hxc hf1
      have p1 : (0 ≤ (j : Int)) = True := eq_true (by omega)
      have p2 : ((j : Int) < (cs.length : Int)) = True := eq_true (by omega)
      have p3 : ((j : Int) < (cs.length : Int) + 1) = True := eq_true (by omega)
      have p4 : (j < cs.length) = True := eq_true hj
      have p5 : (j < cs.length + 1) = True := eq_true (by omega)
      have hwj : wrap64 ((j : Int) + 1) = (j : Int) + 1 := wrap64_of' (by omega) (by omega)
      go_upto_region 7 with (fail)
      obtain ⟨wd, hwd⟩ : ∃ wd, wd = wr.drew := ⟨_, rfl⟩
      have nb : Below wr.heap.size wr wd := by rw [hwd]; exact below_drew1 (Below.refl _ _)
      have nHRG := Kd.R_below HRG.out nb
      have nHBQ := HBQ.out.below nb HBQ.out.lt
      have nHBZ := HBZ.out.below nb HBZ.out.lt
      have nHB := HB.out.trans (nb.mono HB.out.size)
      have nHRJ := Kd.C_below HRJ0.out nb
      have nHX1 := (nb.cell (World.block_lt_of_cell? _ _ HF1.out)).trans HF1.out
      have nHX2 := (nb.cell (World.block_lt_of_cell? _ _ HXC.out)).trans HXC.out
      have nsz : M0 ≤ wd.heap.size := by rw [HM0.out]; exact nHB.size
      clear HRG HBQ HBZ HB HRJ0 HF1 HXC nb
      have HRG := Lib.hid nHRG
      have HBQ := Lib.hid nHBQ
      have HBZ := Lib.hid nHBZ
      have HB := Lib.hid nHB
      have HRJ := Lib.hid nHRJ
      have HX1 := Lib.hid nHX1
      have HX2 := Lib.hid nHX2
      have HSZ := Lib.hid nsz
      have hS0 : wd.cell? ⟨Qb, 0, none⟩ = some (.slice (some ⟨G, 0, none⟩) cs.length cG) ∧ wd.cell? ⟨B, 4, none⟩ = some (.slice (some ad) (cs.length + 1) cL) ∧ wd.cell? (ad.add j) = some (.slice Ai (rd_L4 (cs ++ [inp]) (j : Int)).length ci) := ⟨nHBQ.c0, nHX1, nHX2⟩
      have HS0 := Lib.hid hS0
      clear nHRG nHBQ nHBZ nHB nHRJ nHX1 nHX2 nsz hS0
      refine start_ (n := 14) (S := fun w' => w'.cell? ⟨Qb, 0, none⟩ = some (.slice (some ⟨G, 0, none⟩) cs.length cG) ∧ w'.cell? ⟨B, 4, none⟩ = some (.slice (some ad) (cs.length + 1) cL) ∧ w'.cell? (ad.add j) = some (.slice Ai (rd_L4 (cs ++ [inp]) (j : Int)).length ci)) (ds := [13]) #[false, false, false, false, false, false, false, false, false, false, false, false, false, false] (by kernel_rfl) rfl rfl (by rw [← hwd]; exact HS0.out) (fun hHeld => ?_); refine with_tabW tab49_7 bits49_7 (fun HT_ HW_ => ?_)
      rw [← hwd] at hHeld ⊢; clear hwd
      refine pure_ (i := 0) (N := some 21) (v := ?_) (a' := ?_) #[true, false, false, false, false, false, false, false, false, false, false, false, false, false] rfl rfl (any_of HT_.out (by kernel_rfl)) (fun _ _ _ h => h) (Or.inl ⟨by rfl, ?_⟩) ?_ ?_
      rotate_left
      · intro w'
        go_simp
        with_reducible rfl
      rotate_left
      · simp only [Act.put, List.setIfInBounds_toArray, List.set_cons_zero, List.set_cons_succ, i64_w, i32_w]
        rfl
      refine take_ (i := 1) (N := some 22) (v := ?_) (a' := ?_) #[true, true, false, false, false, false, false, false, false, false, false, false, false, false] rfl rfl (take_ofW HT_.out HW_.out (by kernel_rfl)) (fun _ _ _ h => h) (Or.inl ⟨by rfl, ?_⟩) hHeld ?_ ?_
      rotate_left
      · rintro w' ⟨s0, s1, s2⟩
        go_simp
        with_reducible rfl
      rotate_left
      · simp only [Act.put, List.setIfInBounds_toArray, List.set_cons_zero, List.set_cons_succ, i64_w, i32_w]
        rfl
      refine pure_ (i := 2) (N := some 23) (v := ?_) (a' := ?_) #[true, true, true, false, false, false, false, false, false, false, false, false, false, false] rfl rfl (any_of HT_.out (by kernel_rfl)) (fun _ _ _ h => h) (Or.inl ⟨by rfl, ?_⟩) ?_ ?_
      rotate_left
      · intro w'
        go_simp
        with_reducible rfl
      rotate_left
      · simp only [Act.put, List.setIfInBounds_toArray, List.set_cons_zero, List.set_cons_succ, i64_w, i32_w]
        rfl
      refine pure_ (i := 4) (N := some 25) (v := ?_) (a' := ?_) #[true, true, true, false, true, false, false, false, false, false, false, false, false, false] rfl rfl (any_of HT_.out (by kernel_rfl)) (fun _ _ _ h => h) (Or.inl ⟨by rfl, ?_⟩) ?_ ?_
      rotate_left
      · intro w'
        go_simp
        with_reducible rfl
      rotate_left
      · simp only [Act.put, List.setIfInBounds_toArray, List.set_cons_zero, List.set_cons_succ, i64_w, i32_w]
        rfl
      refine pure_ (i := 5) (N := some 26) (v := ?_) (a' := ?_) #[true, true, true, false, true, true, false, false, false, false, false, false, false, false] rfl rfl (any_of HT_.out (by kernel_rfl)) (fun _ _ _ h => h) (Or.inl ⟨by rfl, ?_⟩) ?_ ?_
      rotate_left
      · intro w'
        go_simp
        with_reducible rfl
      rotate_left
      · simp only [Act.put, List.setIfInBounds_toArray, List.set_cons_zero, List.set_cons_succ, i64_w, i32_w]
        rfl
      refine pure_ (i := 6) (N := some 27) (v := ?_) (a' := ?_) #[true, true, true, false, true, true, true, false, false, false, false, false, false, false] rfl rfl (any_of HT_.out (by kernel_rfl)) (fun _ _ _ h => h) (Or.inl ⟨by rfl, ?_⟩) ?_ ?_
      rotate_left
      · intro w'
        go_simp
        with_reducible rfl
      rotate_left
      · simp only [Act.put, List.setIfInBounds_toArray, List.set_cons_zero, List.set_cons_succ, i64_w, i32_w]
        rfl
      refine take_ (i := 7) (N := some 28) (v := ?_) (a' := ?_) #[true, true, true, false, true, true, true, true, false, false, false, false, false, false] rfl rfl (take_ofW HT_.out HW_.out (by kernel_rfl)) (fun _ _ _ h => h) (Or.inl ⟨by rfl, ?_⟩) hHeld ?_ ?_
      rotate_left
      · rintro w' ⟨s0, s1, s2⟩
        go_simp
        with_reducible rfl
      rotate_left
      · simp only [Act.put, List.setIfInBounds_toArray, List.set_cons_zero, List.set_cons_succ, i64_w, i32_w]
        rfl
      refine pure_ (i := 8) (N := some 29) (v := ?_) (a' := ?_) #[true, true, true, false, true, true, true, true, true, false, false, false, false, false] rfl rfl (any_of HT_.out (by kernel_rfl)) (fun _ _ _ h => h) (Or.inl ⟨by rfl, ?_⟩) ?_ ?_
      rotate_left
      · intro w'
        go_simp
        with_reducible rfl
      rotate_left
      · simp only [Act.put, List.setIfInBounds_toArray, List.set_cons_zero, List.set_cons_succ, i64_w, i32_w]
        rfl
      refine pure_ (i := 9) (N := some 30) (v := ?_) (a' := ?_) #[true, true, true, false, true, true, true, true, true, true, false, false, false, false] rfl rfl (any_of HT_.out (by kernel_rfl)) (fun _ _ _ h => h) (Or.inl ⟨by rfl, ?_⟩) ?_ ?_
      rotate_left
      · intro w'
        go_simp
        with_reducible rfl
      rotate_left
      · simp only [Act.put, List.setIfInBounds_toArray, List.set_cons_zero, List.set_cons_succ, i64_w, i32_w]
        rfl
      refine take_ (i := 10) (N := some 31) (v := ?_) (a' := ?_) #[true, true, true, false, true, true, true, true, true, true, true, false, false, false] rfl rfl (take_ofW HT_.out HW_.out (by kernel_rfl)) (fun _ _ _ h => h) (Or.inl ⟨by rfl, ?_⟩) hHeld ?_ ?_
      rotate_left
      · rintro w' ⟨s0, s1, s2⟩
        go_simp
        with_reducible rfl
      rotate_left
      · simp only [Act.put, List.setIfInBounds_toArray, List.set_cons_zero, List.set_cons_succ, i64_w, i32_w]
        rfl
      refine one_ (i := 3) (N := some 24) #[true, true, true, true, true, true, true, true, true, true, true, false, false, false] rfl rfl (one_of HT_.out (by kernel_rfl)) (by decide) (fun K hK => ?_)
      refine value_ (w1 := ?_) (v := ?_) (by rfl) rfl ?_ ?_
      rotate_left 2
      · go_simp
        constructor
        · rfl
        · rfl
      refine hK.out _ _ ⟨(HBQ.out.alloc _).c0, (World.cell?_alloc_lt _ _ _ (World.block_lt_of_cell? _ _ hHeld.2.1)).trans hHeld.2.1, (World.cell?_alloc_lt _ _ _ (World.block_lt_of_cell? _ _ hHeld.2.2)).trans hHeld.2.2⟩ (fun hHeld => ?_)
      clear hK K
      refine norm_ (a' := ?_) ?_ ?_
      rotate_left
      · show Act.put _ (some 24) _ = _
        simp only [Act.put, List.setIfInBounds_toArray, List.set_cons_zero, List.set_cons_succ, i64_w, i32_w]
        rfl
      refine one_ (i := 11) (N := some 32) #[true, true, true, true, true, true, true, true, true, true, true, true, false, false] rfl rfl (one_of HT_.out (by kernel_rfl)) (by decide) (fun K hK => ?_)
      refine Kd.R_append_rows_step (Kd.int .i64) (w0 := wd) wd.heap.size (by rfl) (.tmp 24) (.tmp 31) 33 3 (.int .i64 0) 8 rfl Try.underlying33 info3 rfl (by decide) (by omega) (.slice (some ⟨wd.heap.size, 0, none⟩) 0 0) ([] : List Int) (rd_L4 (cs ++ [inp]) (j : Int)) Ai (rd_L4 (cs ++ [inp]) (j : Int)).length ci (fun _ => True) (fun _ => False) rfl rfl (Kd.R_of_own (own_lit wd wd.heap.size 3 .i64 [] (Nat.le_refl _) (by simp)) (fun _ _ => trivial)) (Kd.C_alloc HRJ.out _) (fun _ _ h => h) (fun _ h => h.elim) (fun _ _ => trivial) (below_alloc (Below.refl _ _) _) (by simp) (by have := HRL.out (j : Int); simp only [List.length_nil]; omega) ?_
      intro v2 w2 ho2 hb2 hg2 hat2
      have hbw2 : Below wd.heap.size wd w2 := hb2
      refine hK.out _ _ ⟨(HBQ.out.below hb2 HBQ.out.lt).c0, (hb2.cell (World.block_lt_of_cell? _ _ HX1.out)).trans HX1.out, (hb2.cell (World.block_lt_of_cell? _ _ HX2.out)).trans HX2.out⟩ (fun hHeld => ?_)
      have nHRG : Kd.R (Kd.slice 3 (Kd.int .i64)) 33 w2 M0 (fun k => some k ≠ v2.ownBlock) (.slice (some ⟨G, 0, none⟩) cs.length cG) (cs.take j ++ List.replicate (cs.length - j) []) := Kd.R_mono (Kd.R_elder' HRG.out (Kd.R_base ho2) hb2) (fun _ hk => hk.2)
      have nHBQ := HBQ.out.below hb2 HBQ.out.lt
      have nHBZ := HBZ.out.below hb2 HBZ.out.lt
      have nHB := HB.out.trans (hb2.mono HB.out.size)
      have nHO : Kd.R (Kd.int .i64) 3 w2 M0 (fun _ => True) v2 (rd_L4 (cs ++ [inp]) (j : Int)) := Kd.R_lower (by simpa using ho2) HSZ.out
      clear HRG HBQ HBZ HB
      have HRG := Lib.hid nHRG
      have HBQ := Lib.hid nHBQ
      have HBZ := Lib.hid nHBZ
      have HB := Lib.hid nHB
      have HO := Lib.hid nHO
      clear nHRG nHBQ nHBZ nHB nHO ho2 hb2 hg2 hat2 hbw2
      clear hK K
      refine norm_ (a' := ?_) ?_ ?_
      rotate_left
      · show Act.put _ (some 32) _ = _
        simp only [Act.put, List.setIfInBounds_toArray, List.set_cons_zero, List.set_cons_succ, i64_w, i32_w]
        rfl
      refine pure_ (i := 12) (N := some 33) (v := ?_) (a' := ?_) #[true, true, true, true, true, true, true, true, true, true, true, true, true, false] rfl rfl (any_of HT_.out (by kernel_rfl)) (fun _ _ _ h => h) (Or.inl ⟨by rfl, ?_⟩) ?_ ?_
      rotate_left
      · intro w'
        go_simp
        with_reducible rfl
      rotate_left
      · simp only [Act.put, List.setIfInBounds_toArray, List.set_cons_zero, List.set_cons_succ, i64_w, i32_w]
        rfl
      refine last_ (i := 13) (N := none) #[true, true, true, true, true, true, true, true, true, true, true, true, true, true] rfl rfl (one_of HT_.out (by kernel_rfl)) (by decide) (fun K hK => ?_)
      obtain ⟨cE, hcE, hME, hccE, _⟩ := Kd.R_elem HRG.out ([] : List Int) (j : Int) (by omega) (by omega)
      refine R_store_step (Kd.slice 3 (Kd.int .i64)) M0 (by rfl) rfl 33 (.tmp 33) (.tmp 32) rfl 33 (j : Int) (cs.take j ++ List.replicate (cs.length - j) []) (rd_L4 (cs ++ [inp]) (j : Int)) v2 (fun _ => True) (fun k => k ≠ G) (by first | rfl | (simp [Act.eval]; done)) rfl (by obtain ⟨A_, c_, e_⟩ := Kd.R_slice HO.out; subst e_; rfl) (by kernel_rfl) (by obtain ⟨A_, c_, e_⟩ := Kd.R_slice HO.out; subst e_; rfl) rfl (Kd.R_mono HRG.out (fun _ _ => trivial)) (by omega) (by omega) hcE hccE ⟨v2, rfl, Kd.R_mono (Kd.R_bound HO.out) (fun k hk => ?_)⟩ (fun k hk => ⟨trivial, hk⟩) ?_
      · rintro rfl
        obtain ⟨q_, hq_, c3_, hc3_⟩ := hk.2.2.2
        obtain ⟨c33_, hc33_⟩ := own_typed (Kd.R_own HRG.out).choose_spec k (by simp [Value.ownBlock])
        rw [hc33_] at hc3_
        injection hc3_ with hc3_
        injection hc3_ with _ h2_
        subst h2_
        revert hq_
        decide
      intro w4 hw4 hrow4 hg4
      clear hw4
      refine hK.out _ _ ?_
      clear hK K
      refine done_ (done_of HT_.out (by kernel_rfl)) ?_
      rw [Int.toNat_natCast, take_put hj] at hrow4
      try go_wp2
      go_roundg (cs.length - (j + 1))
      case measure => omega
      case rel => exact ⟨j + 1, by omega, by go_num, ⟨hrow4⟩, ⟨HBQ.out.kept hg4 (boxA_ne HRG.out HBQ.out (by decide))⟩, ⟨HBZ.out.kept hg4 (boxA_ne HRG.out HBZ.out (by decide))⟩, ⟨HB.out.grown hg4 HB.out.size (fun k hk => by injection hk with hk; have := HGM.out; have := HM0.out; omega)⟩⟩
    · have hi1 : decide ((j : Int) < (cs.length : Int)) = false := decide_eq_false (by omega)
      have hid : decide (j < cs.length) = false := decide_eq_false hj
      have hjn : j = cs.length := by omega
      obtain ⟨ad, Ai, ci, hA, hxc, hxl, hxr⟩ := at_L4 (Kd.C_below HR.out HB.out) (cs.length : Int) (by omega) (by omega)
      rw [rd_L4_last] at hxc hxl hxr
      have hil : inp.length ≤ 5000 := by have := HRL.out (cs.length : Int); rwa [rd_L4_last] at this
      subst hA
      simp only [Int.toNat_natCast] at hxc
      have hrg : Kd.R (Kd.slice 3 (Kd.int .i64)) 33 wr M0 (fun _ => True) (.slice (some ⟨G, 0, none⟩) cs.length cG) cs := by
        have h1 := HRG.out
        rw [hjn] at h1
        simpa using h1
      have HRJ := Lib.hid hxr
      have HXL := Lib.hid hxl
      have HG2 := Lib.hid hrg
      have HJN := Lib.hid hjn
      clear hxr hxl hrg HRG hjn hjk
      have hx1 := (World.cell?_alloc_lt wr (.cells #[] 3) _ (World.block_lt_of_cell? _ _ hf1)).trans hf1
      have hx2 := (World.cell?_alloc_lt wr (.cells #[] 3) _ (World.block_lt_of_cell? _ _ hxc)).trans hxc
      have p1 : (0 ≤ (cs.length : Int)) = True := eq_true (by omega)
      have p2 : ((cs.length : Int) < (cs.length : Int) + 1) = True := eq_true (by omega)
      have p3 : (cs.length < cs.length + 1) = True := eq_true (by omega)
      have HF1 := Lib.hid hf1
      have HXC := Lib.hid hxc
      clear hf1 hxc
      go_wp2_with ((with_reducible refine gate_builtin (b := .append) (xs := #[.tmp 35, .tmp 42]) rfl ?_); at_builtin; refine Kd.R_append_rows (Kd.int .i64) (w0 := wr) wr.heap.size rfl (.tmp 35) (.tmp 42) 33 3 (.int .i64 0) 8 rfl Try.underlying33 info3 rfl (by decide) (by omega) (.slice (some ⟨wr.heap.size, 0, none⟩) 0 0) ([] : List Int) inp Ai inp.length ci (fun _ => True) (fun _ => False) rfl rfl (Kd.R_of_own (own_lit wr wr.heap.size 3 .i64 [] (Nat.le_refl _) (by simp)) (fun _ _ => trivial)) (Kd.C_alloc HRJ.out _) (fun _ _ h => h) (fun _ h => h.elim) (fun _ _ => trivial) (below_alloc (Below.refl _ _) _) (by simp) (by simp only [List.length_nil]; omega) ?_; intro v2 w2 ho2 hb2 hg2 hat2; have hq2 := HBQ.out.below hb2 HBQ.out.lt; have hz2 := HBZ.out.below hb2 HBZ.out.lt; have q0 := hq2.c0; have q1 := hq2.c1; have q2 := hq2.c2; have qf1 := hq2.f1; have z0 := hz2.c0; have z1 := hz2.c1; have z2 := hz2.c2; have zf0 := hz2.f0; have zf1 := hz2.f1; have zf2 := hz2.f2; have hzq : (w.heap.size = Qb) = False := eq_false (by rw [HQB.out]; omega); have hqz : (Qb = w.heap.size) = False := eq_false (by rw [HQB.out]; omega); obtain ⟨A2, c2, e2⟩ := Kd.R_slice ho2; subst e2; have H2 := Lib.hid ho2; have HQ2 := Lib.hid hq2; have HZ2 := Lib.hid hz2; have HB2 := Lib.hid hb2; clear ho2 hq2 hz2 hb2 hg2 hat2)
      have nq := (HQ2.out.set1 (.slice A2 inp.length c2))
      have nz := HZ2.out.far (p := ⟨Qb, 1, none⟩) (by show w.heap.size ≠ Qb; rw [HQB.out]; omega) (.slice A2 inp.length c2)
      have nz1 := nz.set0 (.slice (some ⟨G, 0, none⟩) cs.length cG)
      have nz2 := nz1.set1 (.slice A2 inp.length c2)
      have nz3 := nz2.set2 nil3
      have hsb : w.heap.size ≤ wr.heap.size := HB.out.size
      have hi2 : Kd.R (Kd.int .i64) 3 w2 w.heap.size (fun _ => True) (.slice A2 inp.length c2) inp := Kd.R_lower (by simpa using H2.out) hsb
      have hg2 : Kd.R (Kd.slice 3 (Kd.int .i64)) 33 w2 w.heap.size (fun _ => True) (.slice (some ⟨G, 0, none⟩) cs.length cG) cs := Kd.R_lower (Kd.R_below HG2.out HB2.out) (by rw [HM0.out]; exact Nat.le_refl _)
      have hbb := HB.out.trans (HB2.out.mono hsb)
      refine bodyPost_ret (results_cell_row rfl _ _ w.heap.size 35 #[.slice (some ⟨G, 0, none⟩) cs.length cG, .slice A2 inp.length c2, nil3] (0, 0) _ rfl nz3 Try.underlying35 rfl (by kernel_rfl)) rfl ?_
      exact ⟨_, _, rfl, R_setA (R_setA (R_setA (R_setA hg2 HQ2.out) nz) nz1) nz2, R_setI (R_setI (R_setI (R_setI hi2 HQ2.out) nz) nz1) nz2, (((hbb.setCell (p := ⟨Qb, 1, none⟩) (by show w.heap.size ≤ Qb; rw [HQB.out]; omega) _).setCell (p := ⟨w.heap.size, 0, none⟩) (Nat.le_refl _) _).setCell (p := ⟨w.heap.size, 1, none⟩) (Nat.le_refl _) _).setCell (p := ⟨w.heap.size, 2, none⟩) (Nat.le_refl _) _⟩

end Go.Proofs.Ytgcdeablfoomhaa.PAll
