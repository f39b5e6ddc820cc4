/- The function that enumerate.All hands back: the search is set up. -/
import Derived.Test.YtgcdeablfoomhaaAll0c
set_option linter.unusedVariables false
set_option linter.unusedSimpArgs false
namespace Go.Proofs.Ytgcdeablfoomhaa.PAll
open Go.RowKit Go.Proofs.YtgcdeablfoomhaaW.PrintWords Go.Proofs.YtgcdeablfoomhaaW.PrintLast Go.Proofs.YtgcdeablfoomhaaW.PrintMore
theorem tab31_6 : rtab .any (opsOf Try.f31 6) = (true, [([], []), ([], []), ([1], [1]), ([2], [2]), ([3], [3]), ([], []), ([5], [5]), ([6], [6]), ([7], [7]), ([4, 8], [4, 8]), ([0, 0, 1, 2, 3, 4, 5, 6, 7, 8, 9], [0]), ([10, 0, 1, 2, 3, 4, 5, 6, 7, 8, 9], [10]), ([11, 9, 9, 0, 1, 2, 3, 4, 5, 6, 7, 8, 9], [9, 11])]) := by kernel_rfl
theorem bits31_6 : waitsOk (true, [([], []), ([], []), ([1], [1]), ([2], [2]), ([3], [3]), ([], []), ([5], [5]), ([6], [6]), ([7], [7]), ([4, 8], [4, 8]), ([0, 0, 1, 2, 3, 4, 5, 6, 7, 8, 9], [0]), ([10, 0, 1, 2, 3, 4, 5, 6, 7, 8, 9], [10]), ([11, 9, 9, 0, 1, 2, 3, 4, 5, 6, 7, 8, 9], [9, 11])]).2 [0, 0, 2, 6, 14, 0, 32, 96, 224, 510, 1023, 2047, 4095] = true := by decide +kernel
theorem tab31_10 : rtab .any (opsOf Try.f31 10) = (true, [([], []), ([], []), ([1], [1]), ([2], [2]), ([3], [3]), ([], []), ([5], [5]), ([], []), ([7], [7]), ([6, 8], [6, 8]), ([9], [9]), ([4, 10], [4, 10]), ([0, 0, 1, 2, 3, 4, 5, 6, 7, 8, 9, 10, 11], [0]), ([12, 0, 1, 2, 3, 4, 5, 6, 7, 8, 9, 10, 11], [12]), ([13, 11, 11, 0, 1, 2, 3, 4, 5, 6, 7, 8, 9, 10, 11], [11, 13])]) := by kernel_rfl
theorem bits31_10 : waitsOk (true, [([], []), ([], []), ([1], [1]), ([2], [2]), ([3], [3]), ([], []), ([5], [5]), ([], []), ([7], [7]), ([6, 8], [6, 8]), ([9], [9]), ([4, 10], [4, 10]), ([0, 0, 1, 2, 3, 4, 5, 6, 7, 8, 9, 10, 11], [0]), ([12, 0, 1, 2, 3, 4, 5, 6, 7, 8, 9, 10, 11], [12]), ([13, 11, 11, 0, 1, 2, 3, 4, 5, 6, 7, 8, 9, 10, 11], [11, 13])]).2 [0, 0, 2, 6, 14, 0, 32, 0, 128, 480, 992, 2046, 4095, 8191, 16383] = true := by decide +kernel
theorem tab31_12 : rtab .any (opsOf Try.f31 12) = (true, [([], []), ([], []), ([1], [1]), ([2], [2]), ([3], [3]), ([], []), ([5], [5]), ([6], [6]), ([7], [7]), ([4, 8], [4, 8]), ([0, 0, 1, 2, 3, 4, 5, 6, 7, 8, 9], [0]), ([10, 0, 1, 2, 3, 4, 5, 6, 7, 8, 9], [10]), ([11, 9, 9, 0, 1, 2, 3, 4, 5, 6, 7, 8, 9], [9, 11])]) := by kernel_rfl
theorem bits31_12 : waitsOk (true, [([], []), ([], []), ([1], [1]), ([2], [2]), ([3], [3]), ([], []), ([5], [5]), ([6], [6]), ([7], [7]), ([4, 8], [4, 8]), ([0, 0, 1, 2, 3, 4, 5, 6, 7, 8, 9], [0]), ([10, 0, 1, 2, 3, 4, 5, 6, 7, 8, 9], [10]), ([11, 9, 9, 0, 1, 2, 3, 4, 5, 6, 7, 8, 9], [9, 11])]).2 [0, 0, 2, 6, 14, 0, 32, 96, 224, 510, 1023, 2047, 4095] = true := by decide +kernel
theorem tab31_14 : rtab .any (opsOf Try.f31 14) = (true, [([], []), ([], []), ([], []), ([], []), ([3], [3]), ([4, 4], [4]), ([], []), ([6], [6]), ([7, 7], [7]), ([], []), ([9, 9], [9]), ([0, 0, 3, 4, 5], [0]), ([11, 0, 3, 4, 5], [11]), ([12, 5, 0, 3, 4, 5], [5, 12]), ([1, 0, 1, 3, 4, 5, 6, 7, 8, 11, 12, 13], [1]), ([14, 0, 1, 3, 4, 5, 6, 7, 8, 11, 12, 13], [14]), ([15, 8, 13, 0, 1, 3, 4, 5, 6, 7, 8, 11, 12, 13], [8, 15]), ([2, 0, 1, 2, 3, 4, 5, 6, 7, 8, 9, 10, 11, 12, 13, 14, 15, 16], [2]), ([17, 0, 1, 2, 3, 4, 5, 6, 7, 8, 9, 10, 11, 12, 13, 14, 15, 16], [17]), ([18, 10, 16, 0, 1, 2, 3, 4, 5, 6, 7, 8, 9, 10, 11, 12, 13, 14, 15, 16], [10, 18])]) := by kernel_rfl
theorem bits31_14 : waitsOk (true, [([], []), ([], []), ([], []), ([], []), ([3], [3]), ([4, 4], [4]), ([], []), ([6], [6]), ([7, 7], [7]), ([], []), ([9, 9], [9]), ([0, 0, 3, 4, 5], [0]), ([11, 0, 3, 4, 5], [11]), ([12, 5, 0, 3, 4, 5], [5, 12]), ([1, 0, 1, 3, 4, 5, 6, 7, 8, 11, 12, 13], [1]), ([14, 0, 1, 3, 4, 5, 6, 7, 8, 11, 12, 13], [14]), ([15, 8, 13, 0, 1, 3, 4, 5, 6, 7, 8, 11, 12, 13], [8, 15]), ([2, 0, 1, 2, 3, 4, 5, 6, 7, 8, 9, 10, 11, 12, 13, 14, 15, 16], [2]), ([17, 0, 1, 2, 3, 4, 5, 6, 7, 8, 9, 10, 11, 12, 13, 14, 15, 16], [17]), ([18, 10, 16, 0, 1, 2, 3, 4, 5, 6, 7, 8, 9, 10, 11, 12, 13, 14, 15, 16], [10, 18])]).2 [0, 0, 0, 0, 8, 24, 0, 64, 192, 0, 512, 57, 2105, 6201, 14843, 31227, 63995, 131071, 262143, 524287] = true := by decide +kernel
theorem tab31_18 : rtab .any (opsOf Try.f31 18) = (true, [([], []), ([0], [0]), ([1], [1]), ([2], [2]), ([], []), ([], []), ([5], [5]), ([6], [6]), ([7], [7]), ([], []), ([9], [9]), ([8, 10], [8, 10]), ([11], [11]), ([], []), ([13], [13]), ([14], [14]), ([15], [15]), ([], []), ([16, 17], [16, 17]), ([18], [18]), ([19], [19]), ([12, 20], [12, 20]), ([3, 4, 0, 1, 2, 3, 4, 5, 6, 7, 8, 9, 10, 11, 12, 13, 14, 15, 16, 17, 18, 19, 20, 21], [3, 4]), ([22, 21, 0, 1, 2, 3, 4, 5, 6, 7, 8, 9, 10, 11, 12, 13, 14, 15, 16, 17, 18, 19, 20, 21], [21, 22])]) := by kernel_rfl
theorem bits31_18 : waitsOk (true, [([], []), ([0], [0]), ([1], [1]), ([2], [2]), ([], []), ([], []), ([5], [5]), ([6], [6]), ([7], [7]), ([], []), ([9], [9]), ([8, 10], [8, 10]), ([11], [11]), ([], []), ([13], [13]), ([14], [14]), ([15], [15]), ([], []), ([16, 17], [16, 17]), ([18], [18]), ([19], [19]), ([12, 20], [12, 20]), ([3, 4, 0, 1, 2, 3, 4, 5, 6, 7, 8, 9, 10, 11, 12, 13, 14, 15, 16, 17, 18, 19, 20, 21], [3, 4]), ([22, 21, 0, 1, 2, 3, 4, 5, 6, 7, 8, 9, 10, 11, 12, 13, 14, 15, 16, 17, 18, 19, 20, 21], [21, 22])]).2 [0, 1, 3, 7, 0, 0, 32, 96, 224, 0, 512, 2016, 4064, 0, 8192, 24576, 57344, 0, 253952, 516096, 1040384, 2097120, 4194303, 8388607] = true := by decide +kernel
theorem tab31_19 : rtab .any (opsOf Try.f31 19) = (true, [([], []), ([0], [0]), ([1], [1]), ([2], [2]), ([], []), ([], []), ([5], [5]), ([6], [6]), ([7], [7]), ([], []), ([9], [9]), ([8, 10], [8, 10]), ([11], [11]), ([], []), ([13], [13]), ([14], [14]), ([15], [15]), ([], []), ([16, 17], [16, 17]), ([18], [18]), ([19], [19]), ([], []), ([21], [21]), ([22], [22]), ([23], [23]), ([24], [24]), ([20, 25], [20, 25]), ([12, 26], [12, 26]), ([3, 4, 0, 1, 2, 3, 4, 5, 6, 7, 8, 9, 10, 11, 12, 13, 14, 15, 16, 17, 18, 19, 20, 21, 22, 23, 24, 25, 26, 27], [3, 4]), ([28, 27, 0, 1, 2, 3, 4, 5, 6, 7, 8, 9, 10, 11, 12, 13, 14, 15, 16, 17, 18, 19, 20, 21, 22, 23, 24, 25, 26, 27], [27, 28])]) := by kernel_rfl
theorem bits31_19 : waitsOk (true, [([], []), ([0], [0]), ([1], [1]), ([2], [2]), ([], []), ([], []), ([5], [5]), ([6], [6]), ([7], [7]), ([], []), ([9], [9]), ([8, 10], [8, 10]), ([11], [11]), ([], []), ([13], [13]), ([14], [14]), ([15], [15]), ([], []), ([16, 17], [16, 17]), ([18], [18]), ([19], [19]), ([], []), ([21], [21]), ([22], [22]), ([23], [23]), ([24], [24]), ([20, 25], [20, 25]), ([12, 26], [12, 26]), ([3, 4, 0, 1, 2, 3, 4, 5, 6, 7, 8, 9, 10, 11, 12, 13, 14, 15, 16, 17, 18, 19, 20, 21, 22, 23, 24, 25, 26, 27], [3, 4]), ([28, 27, 0, 1, 2, 3, 4, 5, 6, 7, 8, 9, 10, 11, 12, 13, 14, 15, 16, 17, 18, 19, 20, 21, 22, 23, 24, 25, 26, 27], [27, 28])]).2 [0, 1, 3, 7, 0, 0, 32, 96, 224, 0, 512, 2016, 4064, 0, 8192, 24576, 57344, 0, 253952, 516096, 1040384, 0, 2097152, 6291456, 14680064, 31457280, 67100672, 134217696, 268435455, 536870911] = true := by decide +kernel

/-- How a range over a box's states ends. -/
def AllPost (J Jx : (Nat → Prop) → List (List (List Int)) → World → Prop) (vars : List S48) (bv bl bi : Int) (e : Ending) (W' : World) : Prop :=
  (∃ v, e = .returned v) ∧ ((∃ T xs, xs = allO vars bv bl bi ∧ J T xs W') ∨ (∃ T pre, (∃ k, k < (allO vars bv bl bi).length ∧ pre = (allO vars bv bl bi).take (k + 1)) ∧ Jx T pre W'))
theorem k48_eta (v : S48) : v = ⟨v.f0, v.f1, v.f2⟩ := rfl
theorem boxV_ne {α : Type} {d : Kd α} {e y : Nat} {W : World} {vd : S48} {base : Nat} {ok : Nat → Prop} {v : Value} {xs : List α} (h : d.R e W base ok v xs) (hb : BoxV W y vd) (hte : (48 : Nat) ≠ e) : some y ≠ v.ownBlock := by
  intro he
  obtain ⟨inner, ho⟩ := Kd.R_own h
  obtain ⟨cells, hc⟩ := own_typed ho y he.symm
  rw [show W.heap[y]? = _ from hb] at hc
  injection hc with hc
  injection hc with _ h2
  exact hte h2
theorem take_map_succ {vars : List S48} {bl : Int} {i : Nat} (h : i < vars.length) (v : S48) (hv : v = vars[i]) : (vars.take (i + 1)).map (slotOf bl) = (vars.take i).map (slotOf bl) ++ [slotOf bl v] := by
  rw [List.take_succ_eq_append_getElem h, List.map_append, hv]; rfl

set_option maxRecDepth 100000 in
set_option maxHeartbeats 16000000 in
theorem all_setup (vars : List S48) (bv bl bi : Int) (A0 : Option Addr) (c0 : Nat) (Bv Bb l : Nat) (W : World) (hvB : validB vars bv bl bi = true)
    (hv : W.cell? ⟨Bv, 0, none⟩ = some (.slice A0 vars.length c0)) (hc0 : vars.length ≤ c0) (hr : Kd.C k48 W A0 vars.length vars)
    (hb0 : W.cell? ⟨Bb, 0, none⟩ = some (.int .i64 bv)) (hb1 : W.cell? ⟨Bb, 1, none⟩ = some (.int .i64 bl)) (hb2 : W.cell? ⟨Bb, 2, none⟩ = some (.int .i64 bi)) (J Jx : (Nat → Prop) → List (List (List Int)) → World → Prop) (hJ : Abide J) (hJx : Abide Jx) (hY : ∀ C : Cx, C.l = l → YieldC C J Jx) (h0 : J (fun _ => False) [] W) :
    Calls Try.prog 31 #[.func (.yield l) #[] #[], .pointer (some ⟨Bv, 0, none⟩), .pointer (some ⟨Bb, 0, none⟩)] W (AllPost J Jx vars bv bl bi) := by
  have H0 := Lib.hid h0
  clear h0
  obtain ⟨kv, hkv⟩ := valid_f vars bv bl bi
  rw [hvB] at hkv
  have hlen : vars.length ≤ 32 := by
    unfold validB at hvB
    simp only [Bool.and_eq_true, decide_eq_true_eq] at hvB
    exact hvB.1.1
  have hbv : 0 ≤ bv ∧ bv ≤ 1000 := by
    unfold validB okB at hvB
    simp only [Bool.and_eq_true, decide_eq_true_eq] at hvB
    exact hvB.1.2.1.1
  obtain ⟨M, hM⟩ : ∃ M, M = W.heap.size := ⟨_, rfl⟩
  have HMW := Lib.hid hM
  have HR := Lib.hid hr
  have HKV := Lib.hid hkv
  have HBV := Lib.hid hv
  have HBB := Lib.hid (And.intro hb0 (And.intro hb1 hb2))
  clear hr hkv hM
  go_enter Try.func31, Try.ntmps31
  go_wp2_with (fail)
  refine (enumerate_valid.calls kv A0 c0 vars bv bl bi true W HR.out hc0 HKV.out).mono ?_
  rintro e w1 ⟨rfl, hb⟩
  have hx0 := (hb.cell (World.block_lt_of_cell? _ _ hb0)).trans hb0
  clear hv hb0 hb1 hb2
  have HB1 := Lib.hid hb
  clear hb
  go_upto_region 2 with (fail)
  obtain ⟨rk, hrke⟩ : ∃ rk : Int, rk = 2 * bv := ⟨_, rfl⟩
  rw [← hrke]
  have HRK := Lib.hid hrke
  clear hrke
  obtain ⟨B, hB⟩ : ∃ B, B = w1.heap.size := ⟨_, rfl⟩
  obtain ⟨w2, hw2⟩ : ∃ w2, w2 = w1.alloc (.cells #[nil3, .int .i64 rk, nil3, nil3, nil3, .func (.yield l) #[] #[]] 60) := ⟨_, rfl⟩
  rw [← hw2, ← hB]
  have hbs : BoxS w2 B nil3 rk nil3 nil3 nil3 l := by rw [hw2, hB]; exact World.alloc_heap_new w1 _
  have hbb : Below W.heap.size W w2 := by rw [hw2]; exact HB1.out.trans ((below_alloc (Below.refl _ _) _).mono HB1.out.size)
  have hMB : M ≤ B := by rw [hB, HMW.out]; exact HB1.out.size
  have hxv := (hbb.cell (World.block_lt_of_cell? _ _ HBV.out)).trans HBV.out
  have HBS := Lib.hid hbs
  have HB := Lib.hid hbb
  have HMB := Lib.hid hMB
  clear hbs hbb hMB hw2 hB hx0 HB1
  go_wp2_with (fail)
  clear hxv
  go_loopg [22] vars.length (fun kq v22 wr => ∃ (i : Nat) (v0 : Value), kq + i = vars.length ∧ v22 = .int .i64 i ∧ Aside0 (k62.R 62 wr M (fun _ => True) v0 ((vars.take i).map (slotOf bl))) ∧ Aside0 (BoxS wr B v0 rk nil3 nil3 nil3 l) ∧ Aside0 (Below W.heap.size W wr))
  case atStart => exact ⟨0, nil3, rfl, rfl, ⟨Kd.R_nil _ _ _ _ _⟩, ⟨HBS.out⟩, ⟨HB.out⟩⟩
  case round =>
    clear HBS HB
    obtain ⟨i, v0, hik, rfl, HV, HBS, HB⟩ := hrel
    by_cases hi : i < vars.length
    · have hi1 : decide ((i : Int) < (vars.length : Int)) = true := decide_eq_true (by omega)
      have hid : decide (i < vars.length) = true := decide_eq_true hi
      have hacl : ((vars.take i).map (slotOf bl)).length ≤ 40 := by rw [List.length_map, List.length_take]; omega
      obtain ⟨acc, hacc⟩ : ∃ acc, acc = (vars.take i).map (slotOf bl) := ⟨_, rfl⟩
      rw [← hacc] at HV hacl
      obtain ⟨A1, c1, e1⟩ := Kd.R_slice HV.out
      subst e1
      obtain ⟨ad, hA, hx0, hx1, hx2⟩ := at_T48 (Kd.C_below HR.out HB.out) (i : Int) (by omega) (by omega)
      subst hA
      have p1 : (0 ≤ (i : Int)) = True := eq_true (by omega)
      have p2 : ((i : Int) < (vars.length : Int)) = True := eq_true (by omega)
      have p3 : (i < vars.length) = True := eq_true hi
      obtain ⟨vd, hvd⟩ : ∃ vd, vd = rd_T48 vars (i : Int) := ⟨_, rfl⟩
      rw [← hvd] at hx0 hx1 hx2
      simp only [Int.toNat_natCast] at hx0 hx1 hx2
      have hvl : vd = vars[i] := by rw [hvd]; unfold rd_T48; simp [hi]
      have htk := take_map_succ (bl := bl) hi vd hvl
      rw [← hacc] at htk
      have HTK0 := Lib.hid htk
      have HACL := Lib.hid hacl
      clear hvd hvl htk hacl hacc
      go_upto_region 5 with (fail)
      obtain ⟨wa, hwa⟩ : ∃ wa, wa = wr.alloc (.cells #[.string vd.f0, .int .u8 vd.f1, .int .i64 vd.f2] 48) := ⟨_, rfl⟩
      obtain ⟨y, hy⟩ : ∃ y, y = wr.heap.size := ⟨_, rfl⟩
      rw [← hwa, ← hy]
      have hba : Below wr.heap.size wr wa := by rw [hwa]; exact below_alloc (Below.refl _ _) _
      have hbv2 : BoxV wa y vd := by rw [hwa, hy]; exact World.alloc_heap_new wr _
      have nV := Kd.R_below HV.out hba
      have nBS := HBS.out.below hba HBS.out.lt
      have nB := HB.out.trans (hba.mono HB.out.size)
      clear HV HBS HB hwa hy hba hx0 hx1 hx2
      have HV := Lib.hid nV
      have HBS := Lib.hid nBS
      have HB := Lib.hid nB
      have hx1 := hbv2.c1
      have hx2 := hbv2.c2
      have HY := Lib.hid hbv2
      clear nV nBS nB hbv2
      by_cases k1 : vd.f1 = 1
      · have k1b : (vd.f1 == 1) = true := by simpa using k1
        have htk : (vars.take (i + 1)).map (slotOf bl) = acc ++ [⟨1, 1⟩] := by rw [HTK0.out]; unfold slotOf; rw [if_pos k1]
        have HTK := Lib.hid htk
        clear htk k1 HTK0
        have hcc := HBS.out.c0
        go_wp2_with ((with_reducible refine gate_builtin (b := .append) (xs := #[.tmp 46, .tmp 48]) rfl ?_); at_builtin; refine Kd.R_append k62 (w0 := wa) M rfl (.tmp 46) (.tmp 48) 58 62 (.agg #[.int .i64 0, .int .i64 0]) 16 rfl Try.underlying58 info62 rfl (by decide) (by omega) (.slice A1 acc.length c1) acc ⟨1, 1⟩ [.int .i64 1, .int .i64 1] (fun _ => True) (fun _ => False) rfl rfl (k62_mkM _ _ _ _) (fun _ h => h.elim) (fun _ _ => trivial) HV.out (Below.refl _ _) (by have := HMW.out; have := HB.out.size; omega) (by have := HACL.out; omega) ?_; intro v2 w2 ho2 hb2 hg2 hat2; obtain ⟨A2, c2, e2⟩ := Kd.R_slice ho2; subst e2; simp only [List.length_append, List.length_cons, List.length_nil, Nat.zero_add] at ho2; have hbs2 := HBS.out.kept hg2 (boxS_ne HV.out HBS.out (by decide)); have hBw2 := HB.out.trans (hb2.mono (Nat.le_of_eq HMW.out.symm)); have HV2 := Lib.hid ho2; have HBS2 := Lib.hid hbs2; have HB2 := Lib.hid hBw2; have hc02 := hbs2.c0; have hfr2 := hbs2.fr 0; clear ho2 hb2 hg2 hat2 hbs2 hBw2 HV HBS HB)
        try go_wp2
        go_roundg (vars.length - (i + 1))
        case measure => omega
        case rel => exact ⟨i + 1, .slice A2 (acc.length + 1) c2, by omega, by go_num, ⟨by rw [HTK.out]; exact R62_set HV2.out HBS2.out⟩, ⟨HBS2.out.set0 _⟩, ⟨HB2.out.setCell (p := ⟨B, 0, none⟩) (by rw [← HMW.out]; exact HMB.out) _⟩⟩
      · have k1b : (vd.f1 == 1) = false := by simpa using k1
        by_cases k2 : vd.f1 = 2
        · have k2b : (vd.f1 == 2) = true := by simpa using k2
          have htk : (vars.take (i + 1)).map (slotOf bl) = acc ++ [⟨vd.f2, vd.f2⟩] := by rw [HTK0.out]; unfold slotOf; rw [if_neg k1, if_pos k2]
          have HTK := Lib.hid htk
          clear htk k1 k2 HTK0
          go_upto_region 10 with (fail)
          have nb : Below wa.heap.size wa wa.drew := below_drew1 (Below.refl _ _)
          obtain ⟨wd, hwd⟩ : ∃ wd, wd = wa.drew := ⟨_, rfl⟩
          rw [← hwd] at nb
          have nV := Kd.R_below HV.out nb
          have nBS := HBS.out.below nb HBS.out.lt
          have nB := HB.out.trans (nb.mono HB.out.size)
          have nx : wd.cell? ⟨y, 2, none⟩ = some (.int .i64 vd.f2) := by rw [hwd]; exact hx2
          clear HV HBS HB nb
          have HV := Lib.hid nV
          have HBS := Lib.hid nBS
          have HB := Lib.hid nB
          have HSX := Lib.hid (And.intro nBS.c0 nx)
          clear nV nBS nB nx
          have nY : BoxV wd y vd := by rw [hwd]; exact HY.out
          have HYD := Lib.hid nY
          clear nY
          refine start_ (n := 15) (S := fun w' => w'.cell? ⟨B, 0, none⟩ = some (.slice A1 (acc).length c1) ∧ w'.cell? ⟨y, 2, none⟩ = some (.int .i64 vd.f2)) (ds := [14]) #[false, false, false, false, false, false, false, false, false, false, false, false, false, false, false] (by kernel_rfl) rfl rfl (by rw [← hwd]; exact HSX.out) (fun hHeld => ?_); refine with_tabW tab31_10 bits31_10 (fun HT_ HW_ => ?_)
          rw [← hwd] at hHeld ⊢; clear hwd
          refine pure_ (i := 0) (N := some 54) (v := ?_) (a' := ?_) #[true, false, false, false, false, false, false, false, false, false, false, false, false, false, false] rfl rfl (any_of HT_.out (by kernel_rfl)) (fun _ _ _ h => h) (Or.inl ⟨by rfl, ?_⟩) ?_ ?_
          rotate_left
          · intro w'
            go_simp
            with_reducible rfl
          rotate_left
          · simp only [Act.put, List.setIfInBounds_toArray, List.set_cons_zero, List.set_cons_succ, i64_w, i32_w]
            rfl
          refine pure_ (i := 1) (N := some 55) (v := ?_) (a' := ?_) #[true, true, false, false, false, false, false, false, false, false, false, false, false, false, false] rfl rfl (any_of HT_.out (by kernel_rfl)) (fun _ _ _ h => h) (Or.inl ⟨by rfl, ?_⟩) ?_ ?_
          rotate_left
          · intro w'
            go_simp
            with_reducible rfl
          rotate_left
          · simp only [Act.put, List.setIfInBounds_toArray, List.set_cons_zero, List.set_cons_succ, i64_w, i32_w]
            rfl
          refine pure_ (i := 2) (N := some 56) (v := ?_) (a' := ?_) #[true, true, true, false, false, false, false, false, false, false, false, false, false, false, false] rfl rfl (any_of HT_.out (by kernel_rfl)) (fun _ _ _ h => h) (Or.inl ⟨by rfl, ?_⟩) ?_ ?_
          rotate_left
          · intro w'
            go_simp
            with_reducible rfl
          rotate_left
          · simp only [Act.put, List.setIfInBounds_toArray, List.set_cons_zero, List.set_cons_succ, i64_w, i32_w]
            rfl
          refine pure_ (i := 3) (N := some 57) (v := ?_) (a' := ?_) #[true, true, true, true, false, false, false, false, false, false, false, false, false, false, false] rfl rfl (any_of HT_.out (by kernel_rfl)) (fun _ _ _ h => h) (Or.inl ⟨by rfl, ?_⟩) ?_ ?_
          rotate_left
          · intro w'
            go_simp
            with_reducible rfl
          rotate_left
          · simp only [Act.put, List.setIfInBounds_toArray, List.set_cons_zero, List.set_cons_succ, i64_w, i32_w]
            rfl
          refine take_ (i := 4) (N := some 58) (v := ?_) (a' := ?_) #[true, true, true, true, true, false, false, false, false, false, false, false, false, false, false] rfl rfl (take_ofW HT_.out HW_.out (by kernel_rfl)) (fun _ _ _ h => h) (Or.inl ⟨by rfl, ?_⟩) hHeld ?_ ?_
          rotate_left
          · rintro w' ⟨s0, s1⟩
            go_simp
            with_reducible rfl
          rotate_left
          · simp only [Act.put, List.setIfInBounds_toArray, List.set_cons_zero, List.set_cons_succ, i64_w, i32_w]
            rfl
          refine pure_ (i := 5) (N := some 59) (v := ?_) (a' := ?_) #[true, true, true, true, true, true, false, false, false, false, false, false, false, false, false] rfl rfl (any_of HT_.out (by kernel_rfl)) (fun _ _ _ h => h) (Or.inl ⟨by rfl, ?_⟩) ?_ ?_
          rotate_left
          · intro w'
            go_simp
            with_reducible rfl
          rotate_left
          · simp only [Act.put, List.setIfInBounds_toArray, List.set_cons_zero, List.set_cons_succ, i64_w, i32_w]
            rfl
          refine take_ (i := 6) (N := some 60) (v := ?_) (a' := ?_) #[true, true, true, true, true, true, true, false, false, false, false, false, false, false, false] rfl rfl (take_ofW HT_.out HW_.out (by kernel_rfl)) (fun _ _ _ h => h) (Or.inl ⟨by rfl, ?_⟩) hHeld ?_ ?_
          rotate_left
          · rintro w' ⟨s0, s1⟩
            go_simp
            with_reducible rfl
          rotate_left
          · simp only [Act.put, List.setIfInBounds_toArray, List.set_cons_zero, List.set_cons_succ, i64_w, i32_w]
            rfl
          refine pure_ (i := 7) (N := some 61) (v := ?_) (a' := ?_) #[true, true, true, true, true, true, true, true, false, false, false, false, false, false, false] rfl rfl (any_of HT_.out (by kernel_rfl)) (fun _ _ _ h => h) (Or.inl ⟨by rfl, ?_⟩) ?_ ?_
          rotate_left
          · intro w'
            go_simp
            with_reducible rfl
          rotate_left
          · simp only [Act.put, List.setIfInBounds_toArray, List.set_cons_zero, List.set_cons_succ, i64_w, i32_w]
            rfl
          refine take_ (i := 8) (N := some 62) (v := ?_) (a' := ?_) #[true, true, true, true, true, true, true, true, true, false, false, false, false, false, false] rfl rfl (take_ofW HT_.out HW_.out (by kernel_rfl)) (fun _ _ _ h => h) (Or.inl ⟨by rfl, ?_⟩) hHeld ?_ ?_
          rotate_left
          · rintro w' ⟨s0, s1⟩
            go_simp
            with_reducible rfl
          rotate_left
          · simp only [Act.put, List.setIfInBounds_toArray, List.set_cons_zero, List.set_cons_succ, i64_w, i32_w]
            rfl
          refine pure_ (i := 9) (N := some 63) (v := ?_) (a' := ?_) #[true, true, true, true, true, true, true, true, true, true, false, false, false, false, false] rfl rfl (any_of HT_.out (by kernel_rfl)) (fun _ _ _ h => h) (Or.inl ⟨by rfl, ?_⟩) ?_ ?_
          rotate_left
          · intro w'
            go_simp
            with_reducible rfl
          rotate_left
          · simp only [Act.put, List.setIfInBounds_toArray, List.set_cons_zero, List.set_cons_succ, i64_w, i32_w]
            rfl
          refine one_ (i := 10) (N := some 64) #[true, true, true, true, true, true, true, true, true, true, true, false, false, false, false] rfl rfl (one_of HT_.out (by kernel_rfl)) (by decide) (fun K hK => ?_)
          refine value_ (w1 := ?_) (v := ?_) (by rfl) rfl ?_ ?_
          rotate_left 2
          · go_simp
            constructor
            · rfl
            · rfl
          refine hK.out _ _ ⟨(World.cell?_alloc_lt _ _ _ (World.block_lt_of_cell? _ _ HSX.out.1)).trans HSX.out.1, (World.cell?_alloc_lt _ _ _ (World.block_lt_of_cell? _ _ HSX.out.2)).trans HSX.out.2⟩ (fun hHeld => ?_)
          clear hK K
          refine norm_ (a' := ?_) ?_ ?_
          rotate_left
          · show Act.put _ (some 64) _ = _
            simp only [Act.put, List.setIfInBounds_toArray, List.set_cons_zero, List.set_cons_succ, i64_w, i32_w]
            rfl
          refine one_ (i := 11) (N := some 65) #[true, true, true, true, true, true, true, true, true, true, true, true, false, false, false] rfl rfl (one_of HT_.out (by kernel_rfl)) (by decide) (fun K hK => ?_)
          refine Kd.R_append_step k62 (w0 := wd) M (by rfl) (.tmp 58) (.tmp 64) 58 62 (.agg #[.int .i64 0, .int .i64 0]) 16 rfl Try.underlying58 info62 rfl (by decide) (by omega) (.slice A1 (acc).length c1) (acc) ⟨vd.f2, vd.f2⟩ [.int .i64 vd.f2, .int .i64 vd.f2] (fun _ => True) (fun _ => False) rfl rfl (k62_mkM _ _ _ _) (fun _ h => h.elim) (fun _ _ => trivial) HV.out (Below.refl _ _) (by have := HMW.out; have := HB.out.size; omega) (by have := HACL.out; omega) ?_
          intro v2 w2 ho2 hb2 hg2 hat2
          obtain ⟨A2, c2, e2⟩ := Kd.R_slice ho2
          subst e2
          simp only [List.length_append, List.length_cons, List.length_nil, Nat.zero_add] at ho2
          have hbs2 := HBS.out.kept hg2 (boxS_ne HV.out HBS.out (by decide))
          have hx2 : w2.cell? ⟨y, 2, none⟩ = some (.int .i64 vd.f2) := (World.cell?_of_block (a := ⟨y, 2, none⟩) (hg2.block y HYD.out.lt (boxV_ne HV.out HYD.out (by decide)))).trans HSX.out.2
          have hBw2 := HB.out.trans (hb2.mono (Nat.le_of_eq HMW.out.symm))
          have HV2 := Lib.hid ho2
          have HBS2 := Lib.hid hbs2
          have HB2 := Lib.hid hBw2
          have hc02 := hbs2.c0
          clear ho2 hb2 hg2 hat2 hbs2 hBw2 HV HBS HB HSX
          refine hK.out _ _ ⟨hc02, hx2⟩ (fun hHeld => ?_)
          clear hK K
          refine norm_ (a' := ?_) ?_ ?_
          rotate_left
          · show Act.put _ (some 65) _ = _
            simp only [Act.put, List.setIfInBounds_toArray, List.set_cons_zero, List.set_cons_succ, i64_w, i32_w]
            rfl
          refine pure_ (i := 12) (N := some 66) (v := ?_) (a' := ?_) #[true, true, true, true, true, true, true, true, true, true, true, true, true, false, false] rfl rfl (any_of HT_.out (by kernel_rfl)) (fun _ _ _ h => h) (Or.inl ⟨by rfl, ?_⟩) ?_ ?_
          rotate_left
          · intro w'
            go_simp
            with_reducible rfl
          rotate_left
          · simp only [Act.put, List.setIfInBounds_toArray, List.set_cons_zero, List.set_cons_succ, i64_w, i32_w]
            rfl
          refine pure_ (i := 13) (N := some 67) (v := ?_) (a' := ?_) #[true, true, true, true, true, true, true, true, true, true, true, true, true, true, false] rfl rfl (any_of HT_.out (by kernel_rfl)) (fun _ _ _ h => h) (Or.inl ⟨by rfl, ?_⟩) ?_ ?_
          rotate_left
          · intro w'
            go_simp
            with_reducible rfl
          rotate_left
          · simp only [Act.put, List.setIfInBounds_toArray, List.set_cons_zero, List.set_cons_succ, i64_w, i32_w]
            rfl
          refine last_ (i := 14) (N := none) #[true, true, true, true, true, true, true, true, true, true, true, true, true, true, true] rfl rfl (one_of HT_.out (by kernel_rfl)) (by decide) (fun K hK => ?_)
          have hfr := HBS2.out.fr 0
          have hcc := HBS2.out.c0
          refine skip_ (w1 := ?_) (by rfl) rfl ?_ ?_
          rotate_left
          · go_simp
            rfl
          refine hK.out _ _ ?_
          clear hfr hcc
          clear hK K
          refine done_ (done_of HT_.out (by kernel_rfl)) ?_
          try go_wp2
          go_roundg (vars.length - (i + 1))
          case measure => omega
          case rel => exact ⟨i + 1, .slice A2 (acc.length + 1) c2, by omega, by go_num, ⟨by rw [HTK.out]; exact R62_set HV2.out HBS2.out⟩, ⟨HBS2.out.set0 _⟩, ⟨HB2.out.setCell (p := ⟨B, 0, none⟩) (by rw [← HMW.out]; exact HMB.out) _⟩⟩
        · have k2b : (vd.f1 == 2) = false := by simpa using k2
          have htk : (vars.take (i + 1)).map (slotOf bl) = acc ++ [⟨0, bl⟩] := by rw [HTK0.out]; unfold slotOf; rw [if_neg k1, if_neg k2]
          have HTK := Lib.hid htk
          clear htk k1 k2 HTK0
          have hxl := (HB.out.cell (World.block_lt_of_cell? _ _ HBB.out.2.1)).trans HBB.out.2.1
          go_upto_region 6 with (fail)
          have nb : Below wa.heap.size wa wa.drew := below_drew1 (Below.refl _ _)
          obtain ⟨wd, hwd⟩ : ∃ wd, wd = wa.drew := ⟨_, rfl⟩
          rw [← hwd] at nb
          have nV := Kd.R_below HV.out nb
          have nBS := HBS.out.below nb HBS.out.lt
          have nB := HB.out.trans (nb.mono HB.out.size)
          have nx : wd.cell? ⟨Bb, 1, none⟩ = some (.int .i64 bl) := by rw [hwd]; exact hxl
          clear HV HBS HB nb
          have HV := Lib.hid nV
          have HBS := Lib.hid nBS
          have HB := Lib.hid nB
          have HSX := Lib.hid (And.intro nBS.c0 nx)
          clear nV nBS nB nx
          refine start_ (n := 13) (S := fun w' => w'.cell? ⟨B, 0, none⟩ = some (.slice A1 (acc).length c1) ∧ w'.cell? ⟨Bb, 1, none⟩ = some (.int .i64 bl)) (ds := [12]) #[false, false, false, false, false, false, false, false, false, false, false, false, false] (by kernel_rfl) rfl rfl (by rw [← hwd]; exact HSX.out) (fun hHeld => ?_); refine with_tabW tab31_6 bits31_6 (fun HT_ HW_ => ?_)
          rw [← hwd] at hHeld ⊢; clear hwd
          refine pure_ (i := 0) (N := some 28) (v := ?_) (a' := ?_) #[true, false, false, false, false, false, false, false, false, false, false, false, false] rfl rfl (any_of HT_.out (by kernel_rfl)) (fun _ _ _ h => h) (Or.inl ⟨by rfl, ?_⟩) ?_ ?_
          rotate_left
          · intro w'
            go_simp
            with_reducible rfl
          rotate_left
          · simp only [Act.put, List.setIfInBounds_toArray, List.set_cons_zero, List.set_cons_succ, i64_w, i32_w]
            rfl
          refine pure_ (i := 1) (N := some 29) (v := ?_) (a' := ?_) #[true, true, false, false, false, false, false, false, false, false, false, false, false] rfl rfl (any_of HT_.out (by kernel_rfl)) (fun _ _ _ h => h) (Or.inl ⟨by rfl, ?_⟩) ?_ ?_
          rotate_left
          · intro w'
            go_simp
            with_reducible rfl
          rotate_left
          · simp only [Act.put, List.setIfInBounds_toArray, List.set_cons_zero, List.set_cons_succ, i64_w, i32_w]
            rfl
          refine pure_ (i := 2) (N := some 30) (v := ?_) (a' := ?_) #[true, true, true, false, false, false, false, false, false, false, false, false, false] rfl rfl (any_of HT_.out (by kernel_rfl)) (fun _ _ _ h => h) (Or.inl ⟨by rfl, ?_⟩) ?_ ?_
          rotate_left
          · intro w'
            go_simp
            with_reducible rfl
          rotate_left
          · simp only [Act.put, List.setIfInBounds_toArray, List.set_cons_zero, List.set_cons_succ, i64_w, i32_w]
            rfl
          refine pure_ (i := 3) (N := some 31) (v := ?_) (a' := ?_) #[true, true, true, true, false, false, false, false, false, false, false, false, false] rfl rfl (any_of HT_.out (by kernel_rfl)) (fun _ _ _ h => h) (Or.inl ⟨by rfl, ?_⟩) ?_ ?_
          rotate_left
          · intro w'
            go_simp
            with_reducible rfl
          rotate_left
          · simp only [Act.put, List.setIfInBounds_toArray, List.set_cons_zero, List.set_cons_succ, i64_w, i32_w]
            rfl
          refine take_ (i := 4) (N := some 32) (v := ?_) (a' := ?_) #[true, true, true, true, true, false, false, false, false, false, false, false, false] rfl rfl (take_ofW HT_.out HW_.out (by kernel_rfl)) (fun _ _ _ h => h) (Or.inl ⟨by rfl, ?_⟩) hHeld ?_ ?_
          rotate_left
          · rintro w' ⟨s0, s1⟩
            go_simp
            with_reducible rfl
          rotate_left
          · simp only [Act.put, List.setIfInBounds_toArray, List.set_cons_zero, List.set_cons_succ, i64_w, i32_w]
            rfl
          refine pure_ (i := 5) (N := some 33) (v := ?_) (a' := ?_) #[true, true, true, true, true, true, false, false, false, false, false, false, false] rfl rfl (any_of HT_.out (by kernel_rfl)) (fun _ _ _ h => h) (Or.inl ⟨by rfl, ?_⟩) ?_ ?_
          rotate_left
          · intro w'
            go_simp
            with_reducible rfl
          rotate_left
          · simp only [Act.put, List.setIfInBounds_toArray, List.set_cons_zero, List.set_cons_succ, i64_w, i32_w]
            rfl
          refine take_ (i := 6) (N := some 34) (v := ?_) (a' := ?_) #[true, true, true, true, true, true, true, false, false, false, false, false, false] rfl rfl (take_ofW HT_.out HW_.out (by kernel_rfl)) (fun _ _ _ h => h) (Or.inl ⟨by rfl, ?_⟩) hHeld ?_ ?_
          rotate_left
          · rintro w' ⟨s0, s1⟩
            go_simp
            with_reducible rfl
          rotate_left
          · simp only [Act.put, List.setIfInBounds_toArray, List.set_cons_zero, List.set_cons_succ, i64_w, i32_w]
            rfl
          refine pure_ (i := 7) (N := some 35) (v := ?_) (a' := ?_) #[true, true, true, true, true, true, true, true, false, false, false, false, false] rfl rfl (any_of HT_.out (by kernel_rfl)) (fun _ _ _ h => h) (Or.inl ⟨by rfl, ?_⟩) ?_ ?_
          rotate_left
          · intro w'
            go_simp
            with_reducible rfl
          rotate_left
          · simp only [Act.put, List.setIfInBounds_toArray, List.set_cons_zero, List.set_cons_succ, i64_w, i32_w]
            rfl
          refine one_ (i := 8) (N := some 36) #[true, true, true, true, true, true, true, true, true, false, false, false, false] rfl rfl (one_of HT_.out (by kernel_rfl)) (by decide) (fun K hK => ?_)
          refine value_ (w1 := ?_) (v := ?_) (by rfl) rfl ?_ ?_
          rotate_left 2
          · go_simp
            constructor
            · rfl
            · rfl
          refine hK.out _ _ ⟨(World.cell?_alloc_lt _ _ _ (World.block_lt_of_cell? _ _ HSX.out.1)).trans HSX.out.1, (World.cell?_alloc_lt _ _ _ (World.block_lt_of_cell? _ _ HSX.out.2)).trans HSX.out.2⟩ (fun hHeld => ?_)
          clear hK K
          refine norm_ (a' := ?_) ?_ ?_
          rotate_left
          · show Act.put _ (some 36) _ = _
            simp only [Act.put, List.setIfInBounds_toArray, List.set_cons_zero, List.set_cons_succ, i64_w, i32_w]
            rfl
          refine one_ (i := 9) (N := some 37) #[true, true, true, true, true, true, true, true, true, true, false, false, false] rfl rfl (one_of HT_.out (by kernel_rfl)) (by decide) (fun K hK => ?_)
          refine Kd.R_append_step k62 (w0 := wd) M (by rfl) (.tmp 32) (.tmp 36) 58 62 (.agg #[.int .i64 0, .int .i64 0]) 16 rfl Try.underlying58 info62 rfl (by decide) (by omega) (.slice A1 (acc).length c1) (acc) ⟨0, bl⟩ [.int .i64 0, .int .i64 bl] (fun _ => True) (fun _ => False) rfl rfl (k62_mkM _ _ _ _) (fun _ h => h.elim) (fun _ _ => trivial) HV.out (Below.refl _ _) (by have := HMW.out; have := HB.out.size; omega) (by have := HACL.out; omega) ?_
          intro v2 w2 ho2 hb2 hg2 hat2
          obtain ⟨A2, c2, e2⟩ := Kd.R_slice ho2
          subst e2
          simp only [List.length_append, List.length_cons, List.length_nil, Nat.zero_add] at ho2
          have hbs2 := HBS.out.kept hg2 (boxS_ne HV.out HBS.out (by decide))
          have hx2 : w2.cell? ⟨Bb, 1, none⟩ = some (.int .i64 bl) := (hb2.cell (p := ⟨Bb, 1, none⟩) (by rw [HMW.out]; exact World.block_lt_of_cell? _ _ HBB.out.2.1)).trans HSX.out.2
          have hBw2 := HB.out.trans (hb2.mono (Nat.le_of_eq HMW.out.symm))
          have HV2 := Lib.hid ho2
          have HBS2 := Lib.hid hbs2
          have HB2 := Lib.hid hBw2
          have hc02 := hbs2.c0
          clear ho2 hb2 hg2 hat2 hbs2 hBw2 HV HBS HB HSX
          refine hK.out _ _ ⟨hc02, hx2⟩ (fun hHeld => ?_)
          clear hK K
          refine norm_ (a' := ?_) ?_ ?_
          rotate_left
          · show Act.put _ (some 37) _ = _
            simp only [Act.put, List.setIfInBounds_toArray, List.set_cons_zero, List.set_cons_succ, i64_w, i32_w]
            rfl
          refine pure_ (i := 10) (N := some 38) (v := ?_) (a' := ?_) #[true, true, true, true, true, true, true, true, true, true, true, false, false] rfl rfl (any_of HT_.out (by kernel_rfl)) (fun _ _ _ h => h) (Or.inl ⟨by rfl, ?_⟩) ?_ ?_
          rotate_left
          · intro w'
            go_simp
            with_reducible rfl
          rotate_left
          · simp only [Act.put, List.setIfInBounds_toArray, List.set_cons_zero, List.set_cons_succ, i64_w, i32_w]
            rfl
          refine pure_ (i := 11) (N := some 39) (v := ?_) (a' := ?_) #[true, true, true, true, true, true, true, true, true, true, true, true, false] rfl rfl (any_of HT_.out (by kernel_rfl)) (fun _ _ _ h => h) (Or.inl ⟨by rfl, ?_⟩) ?_ ?_
          rotate_left
          · intro w'
            go_simp
            with_reducible rfl
          rotate_left
          · simp only [Act.put, List.setIfInBounds_toArray, List.set_cons_zero, List.set_cons_succ, i64_w, i32_w]
            rfl
          refine last_ (i := 12) (N := none) #[true, true, true, true, true, true, true, true, true, true, true, true, true] rfl rfl (one_of HT_.out (by kernel_rfl)) (by decide) (fun K hK => ?_)
          have hfr := HBS2.out.fr 0
          have hcc := HBS2.out.c0
          refine skip_ (w1 := ?_) (by rfl) rfl ?_ ?_
          rotate_left
          · go_simp
            rfl
          refine hK.out _ _ ?_
          clear hfr hcc
          clear hK K
          refine done_ (done_of HT_.out (by kernel_rfl)) ?_
          try go_wp2
          go_roundg (vars.length - (i + 1))
          case measure => omega
          case rel => exact ⟨i + 1, .slice A2 (acc.length + 1) c2, by omega, by go_num, ⟨by rw [HTK.out]; exact R62_set HV2.out HBS2.out⟩, ⟨HBS2.out.set0 _⟩, ⟨HB2.out.setCell (p := ⟨B, 0, none⟩) (by rw [← HMW.out]; exact HMB.out) _⟩⟩
    · have hi1 : decide ((i : Int) < (vars.length : Int)) = false := decide_eq_false (by omega)
      have hid : decide (i < vars.length) = false := decide_eq_false hi
      have hie : i = vars.length := by omega
      have hacl : ((vars.take i).map (slotOf bl)).length ≤ 40 := by rw [List.length_map, List.length_take]; omega
      obtain ⟨acc, hacc⟩ : ∃ acc, acc = (vars.take i).map (slotOf bl) := ⟨_, rfl⟩
      have hsl : acc ++ [⟨0, bi⟩] = slotsOf vars bl bi := by rw [hacc, hie, List.take_of_length_le (Nat.le_refl _)]; rfl
      rw [← hacc] at HV hacl
      have hal : acc.length = vars.length := by rw [hacc, hie]; simp
      obtain ⟨A1, c1, e1⟩ := Kd.R_slice HV.out
      subst e1
      have HACL := Lib.hid hacl
      have HSL := Lib.hid hsl
      have HAL := Lib.hid hal
      clear hacl hacc hsl hie hi hik hal
      have hxi := (HB.out.cell (World.block_lt_of_cell? _ _ HBB.out.2.2)).trans HBB.out.2.2
      go_upto_region 12 with (fail)
      have nb : Below wr.heap.size wr wr.drew := below_drew1 (Below.refl _ _)
      obtain ⟨wd, hwd⟩ : ∃ wd, wd = wr.drew := ⟨_, rfl⟩
      rw [← hwd] at nb
      have nV := Kd.R_below HV.out nb
      have nBS := HBS.out.below nb HBS.out.lt
      have nB := HB.out.trans (nb.mono HB.out.size)
      have nx : wd.cell? ⟨Bb, 2, none⟩ = some (.int .i64 bi) := by rw [hwd]; exact hxi
      clear HV HBS HB nb
      have HV := Lib.hid nV
      have HBS := Lib.hid nBS
      have HB := Lib.hid nB
      have HSX := Lib.hid (And.intro nBS.c0 nx)
      clear nV nBS nB nx
      refine start_ (n := 13) (S := fun w' => w'.cell? ⟨B, 0, none⟩ = some (.slice A1 (acc).length c1) ∧ w'.cell? ⟨Bb, 2, none⟩ = some (.int .i64 bi)) (ds := [12]) #[false, false, false, false, false, false, false, false, false, false, false, false, false] (by kernel_rfl) rfl rfl (by rw [← hwd]; exact HSX.out) (fun hHeld => ?_); refine with_tabW tab31_12 bits31_12 (fun HT_ HW_ => ?_)
      rw [← hwd] at hHeld ⊢; clear hwd
      refine pure_ (i := 0) (N := some 69) (v := ?_) (a' := ?_) #[true, false, false, false, false, false, false, false, false, false, false, false, false] rfl rfl (any_of HT_.out (by kernel_rfl)) (fun _ _ _ h => h) (Or.inl ⟨by rfl, ?_⟩) ?_ ?_
      rotate_left
      · intro w'
        go_simp
        with_reducible rfl
      rotate_left
      · simp only [Act.put, List.setIfInBounds_toArray, List.set_cons_zero, List.set_cons_succ, i64_w, i32_w]
        rfl
      refine pure_ (i := 1) (N := some 70) (v := ?_) (a' := ?_) #[true, true, false, false, false, false, false, false, false, false, false, false, false] rfl rfl (any_of HT_.out (by kernel_rfl)) (fun _ _ _ h => h) (Or.inl ⟨by rfl, ?_⟩) ?_ ?_
      rotate_left
      · intro w'
        go_simp
        with_reducible rfl
      rotate_left
      · simp only [Act.put, List.setIfInBounds_toArray, List.set_cons_zero, List.set_cons_succ, i64_w, i32_w]
        rfl
      refine pure_ (i := 2) (N := some 71) (v := ?_) (a' := ?_) #[true, true, true, false, false, false, false, false, false, false, false, false, false] rfl rfl (any_of HT_.out (by kernel_rfl)) (fun _ _ _ h => h) (Or.inl ⟨by rfl, ?_⟩) ?_ ?_
      rotate_left
      · intro w'
        go_simp
        with_reducible rfl
      rotate_left
      · simp only [Act.put, List.setIfInBounds_toArray, List.set_cons_zero, List.set_cons_succ, i64_w, i32_w]
        rfl
      refine pure_ (i := 3) (N := some 72) (v := ?_) (a' := ?_) #[true, true, true, true, false, false, false, false, false, false, false, false, false] rfl rfl (any_of HT_.out (by kernel_rfl)) (fun _ _ _ h => h) (Or.inl ⟨by rfl, ?_⟩) ?_ ?_
      rotate_left
      · intro w'
        go_simp
        with_reducible rfl
      rotate_left
      · simp only [Act.put, List.setIfInBounds_toArray, List.set_cons_zero, List.set_cons_succ, i64_w, i32_w]
        rfl
      refine take_ (i := 4) (N := some 73) (v := ?_) (a' := ?_) #[true, true, true, true, true, false, false, false, false, false, false, false, false] rfl rfl (take_ofW HT_.out HW_.out (by kernel_rfl)) (fun _ _ _ h => h) (Or.inl ⟨by rfl, ?_⟩) hHeld ?_ ?_
      rotate_left
      · rintro w' ⟨s0, s1⟩
        go_simp
        with_reducible rfl
      rotate_left
      · simp only [Act.put, List.setIfInBounds_toArray, List.set_cons_zero, List.set_cons_succ, i64_w, i32_w]
        rfl
      refine pure_ (i := 5) (N := some 74) (v := ?_) (a' := ?_) #[true, true, true, true, true, true, false, false, false, false, false, false, false] rfl rfl (any_of HT_.out (by kernel_rfl)) (fun _ _ _ h => h) (Or.inl ⟨by rfl, ?_⟩) ?_ ?_
      rotate_left
      · intro w'
        go_simp
        with_reducible rfl
      rotate_left
      · simp only [Act.put, List.setIfInBounds_toArray, List.set_cons_zero, List.set_cons_succ, i64_w, i32_w]
        rfl
      refine take_ (i := 6) (N := some 75) (v := ?_) (a' := ?_) #[true, true, true, true, true, true, true, false, false, false, false, false, false] rfl rfl (take_ofW HT_.out HW_.out (by kernel_rfl)) (fun _ _ _ h => h) (Or.inl ⟨by rfl, ?_⟩) hHeld ?_ ?_
      rotate_left
      · rintro w' ⟨s0, s1⟩
        go_simp
        with_reducible rfl
      rotate_left
      · simp only [Act.put, List.setIfInBounds_toArray, List.set_cons_zero, List.set_cons_succ, i64_w, i32_w]
        rfl
      refine pure_ (i := 7) (N := some 76) (v := ?_) (a' := ?_) #[true, true, true, true, true, true, true, true, false, false, false, false, false] rfl rfl (any_of HT_.out (by kernel_rfl)) (fun _ _ _ h => h) (Or.inl ⟨by rfl, ?_⟩) ?_ ?_
      rotate_left
      · intro w'
        go_simp
        with_reducible rfl
      rotate_left
      · simp only [Act.put, List.setIfInBounds_toArray, List.set_cons_zero, List.set_cons_succ, i64_w, i32_w]
        rfl
      refine one_ (i := 8) (N := some 77) #[true, true, true, true, true, true, true, true, true, false, false, false, false] rfl rfl (one_of HT_.out (by kernel_rfl)) (by decide) (fun K hK => ?_)
      refine value_ (w1 := ?_) (v := ?_) (by rfl) rfl ?_ ?_
      rotate_left 2
      · go_simp
        constructor
        · rfl
        · rfl
      refine hK.out _ _ ⟨(World.cell?_alloc_lt _ _ _ (World.block_lt_of_cell? _ _ HSX.out.1)).trans HSX.out.1, (World.cell?_alloc_lt _ _ _ (World.block_lt_of_cell? _ _ HSX.out.2)).trans HSX.out.2⟩ (fun hHeld => ?_)
      clear hK K
      refine norm_ (a' := ?_) ?_ ?_
      rotate_left
      · show Act.put _ (some 77) _ = _
        simp only [Act.put, List.setIfInBounds_toArray, List.set_cons_zero, List.set_cons_succ, i64_w, i32_w]
        rfl
      refine one_ (i := 9) (N := some 78) #[true, true, true, true, true, true, true, true, true, true, false, false, false] rfl rfl (one_of HT_.out (by kernel_rfl)) (by decide) (fun K hK => ?_)
      refine Kd.R_append_step k62 (w0 := wd) M (by rfl) (.tmp 73) (.tmp 77) 58 62 (.agg #[.int .i64 0, .int .i64 0]) 16 rfl Try.underlying58 info62 rfl (by decide) (by omega) (.slice A1 (acc).length c1) (acc) ⟨0, bi⟩ [.int .i64 0, .int .i64 bi] (fun _ => True) (fun _ => False) rfl rfl (k62_mkM _ _ _ _) (fun _ h => h.elim) (fun _ _ => trivial) HV.out (Below.refl _ _) (by have := HMW.out; have := HB.out.size; omega) (by have := HACL.out; omega) ?_
      intro v2 w2 ho2 hb2 hg2 hat2
      obtain ⟨A2, c2, e2⟩ := Kd.R_slice ho2
      subst e2
      simp only [List.length_append, List.length_cons, List.length_nil, Nat.zero_add] at ho2
      have hbs2 := HBS.out.kept hg2 (boxS_ne HV.out HBS.out (by decide))
      have hx2 : w2.cell? ⟨Bb, 2, none⟩ = some (.int .i64 bi) := (hb2.cell (p := ⟨Bb, 2, none⟩) (by rw [HMW.out]; exact World.block_lt_of_cell? _ _ HBB.out.2.2)).trans HSX.out.2
      have hBw2 := HB.out.trans (hb2.mono (Nat.le_of_eq HMW.out.symm))
      have HV2 := Lib.hid ho2
      have HBS2 := Lib.hid hbs2
      have HB2 := Lib.hid hBw2
      have hc02 := hbs2.c0
      clear ho2 hb2 hg2 hat2 hbs2 hBw2 HV HBS HB HSX
      refine hK.out _ _ ⟨hc02, hx2⟩ (fun hHeld => ?_)
      clear hK K
      refine norm_ (a' := ?_) ?_ ?_
      rotate_left
      · show Act.put _ (some 78) _ = _
        simp only [Act.put, List.setIfInBounds_toArray, List.set_cons_zero, List.set_cons_succ, i64_w, i32_w]
        rfl
      refine pure_ (i := 10) (N := some 79) (v := ?_) (a' := ?_) #[true, true, true, true, true, true, true, true, true, true, true, false, false] rfl rfl (any_of HT_.out (by kernel_rfl)) (fun _ _ _ h => h) (Or.inl ⟨by rfl, ?_⟩) ?_ ?_
      rotate_left
      · intro w'
        go_simp
        with_reducible rfl
      rotate_left
      · simp only [Act.put, List.setIfInBounds_toArray, List.set_cons_zero, List.set_cons_succ, i64_w, i32_w]
        rfl
      refine pure_ (i := 11) (N := some 80) (v := ?_) (a' := ?_) #[true, true, true, true, true, true, true, true, true, true, true, true, false] rfl rfl (any_of HT_.out (by kernel_rfl)) (fun _ _ _ h => h) (Or.inl ⟨by rfl, ?_⟩) ?_ ?_
      rotate_left
      · intro w'
        go_simp
        with_reducible rfl
      rotate_left
      · simp only [Act.put, List.setIfInBounds_toArray, List.set_cons_zero, List.set_cons_succ, i64_w, i32_w]
        rfl
      refine last_ (i := 12) (N := none) #[true, true, true, true, true, true, true, true, true, true, true, true, true] rfl rfl (one_of HT_.out (by kernel_rfl)) (by decide) (fun K hK => ?_)
      have hfr := HBS2.out.fr 0
      have hcc := HBS2.out.c0
      refine skip_ (w1 := ?_) (by rfl) rfl ?_ ?_
      rotate_left
      · go_simp
        rfl
      refine hK.out _ _ ?_
      clear hfr hcc
      clear hK K
      refine done_ (done_of HT_.out (by kernel_rfl)) ?_
      have hHG := HV2.out
      obtain ⟨G, cG, hform, hGM⟩ := R_form' hHG (by obtain ⟨g_, c_, e_, _⟩ := Kd.R_form hHG (by simp); rw [e_]; exact ⟨g_, .inr rfl⟩)
      injection hform with hf1 hf2 hf3
      clear hf2
      subst hf1
      subst hf3
      obtain ⟨n, hn⟩ : ∃ n, n = acc.length + 1 := ⟨_, rfl⟩
      rw [← hn] at hHG ⊢
      obtain ⟨sl, hsle⟩ : ∃ sl, sl = acc ++ [⟨0, bi⟩] := ⟨_, rfl⟩
      rw [← hsle] at hHG
      have hnl : sl.length = n := by rw [hsle, hn]; simp
      have hn1 : n ≤ 41 := by have := HACL.out; omega
      have hn0 : 1 ≤ n := by omega
      obtain ⟨w3, hw3⟩ : ∃ w3, w3 = w2.setCell ⟨B, 0, none⟩ (.slice (some ⟨G, 0, none⟩) n c2) := ⟨_, rfl⟩
      have FM : MkF W M B l rk (.slice (some ⟨G, 0, none⟩) n c2) sl (n + 1) n none none none nil3 nil3 nil3 w3 := by
        rw [hw3]
        exact ⟨HBS2.out.set0 _, R62_set hHG HBS2.out, HB2.out.setCell (p := ⟨B, 0, none⟩) (by rw [← HMW.out]; exact HMB.out) _, fun g hg => by simp at hg, fun g hg => by simp at hg, fun g hg => by simp at hg, fun g hg => by simp at hg⟩
      rw [← hw3]
      have HSLE := Lib.hid hsle
      have HN := Lib.hid hn
      have HNL := Lib.hid hnl
      have hc3 := FM.box.c0
      clear hHG hw3 hsle hn hnl HV2 HBS2 HB2
      go_upto_region 14 with (fail)
      obtain ⟨N1, hN1⟩ : ∃ N1, N1 = n + 1 := ⟨_, rfl⟩
      have en : wrap64 ((n : Int) + 1) = (N1 : Int) := by rw [hN1, wrap64_of' (by omega) (by omega)]; omega
      have hN1b : N1 ≤ 1000 := by omega
      have hnb : n ≤ 1000 := by omega
      have F0 := FM.drew
      rw [← hN1] at F0
      have hni : (n : Int) + 1 = (N1 : Int) := by omega
      have HNI := Lib.hid hni
      clear hni
      have HN1 := Lib.hid hN1
      clear hN1 FM hc3
      have hMBw : W.heap.size ≤ B := by rw [← HMW.out]; exact HMB.out
      refine start_ (n := 20) (S := fun _ => True) (ds := []) #[false, false, false, false, false, false, false, false, false, false, false, false, false, false, false, false, false, false, false, false] (by kernel_rfl) rfl rfl trivial (fun _ => ?_); refine with_tabW tab31_14 bits31_14 (fun HT_ HW_ => ?_)
      obtain ⟨wq0, hwq0⟩ : ∃ w, w = w3.drew := ⟨_, rfl⟩
      rw [← hwq0] at F0 ⊢
      clear hwq0
      refine pure_ (i := 0) (N := some 86) (v := ?_) (a' := ?_) #[true, false, false, false, false, false, false, false, false, false, false, false, false, false, false, false, false, false, false, false] rfl rfl (any_of HT_.out (by kernel_rfl)) (fun _ _ _ h => h) (Or.inl ⟨by rfl, ?_⟩) ?_ ?_
      rotate_left
      · intro w'
        go_simp
        with_reducible rfl
      rotate_left
      · simp only [Act.put, List.setIfInBounds_toArray, List.set_cons_zero, List.set_cons_succ, i64_w, i32_w]
        rfl
      refine pure_ (i := 1) (N := some 87) (v := ?_) (a' := ?_) #[true, true, false, false, false, false, false, false, false, false, false, false, false, false, false, false, false, false, false, false] rfl rfl (any_of HT_.out (by kernel_rfl)) (fun _ _ _ h => h) (Or.inl ⟨by rfl, ?_⟩) ?_ ?_
      rotate_left
      · intro w'
        go_simp
        with_reducible rfl
      rotate_left
      · simp only [Act.put, List.setIfInBounds_toArray, List.set_cons_zero, List.set_cons_succ, i64_w, i32_w]
        rfl
      refine pure_ (i := 2) (N := some 88) (v := ?_) (a' := ?_) #[true, true, true, false, false, false, false, false, false, false, false, false, false, false, false, false, false, false, false, false] rfl rfl (any_of HT_.out (by kernel_rfl)) (fun _ _ _ h => h) (Or.inl ⟨by rfl, ?_⟩) ?_ ?_
      rotate_left
      · intro w'
        go_simp
        with_reducible rfl
      rotate_left
      · simp only [Act.put, List.setIfInBounds_toArray, List.set_cons_zero, List.set_cons_succ, i64_w, i32_w]
        rfl
      refine pure_ (i := 3) (N := some 89) (v := ?_) (a' := ?_) #[true, true, true, true, false, false, false, false, false, false, false, false, false, false, false, false, false, false, false, false] rfl rfl (any_of HT_.out (by kernel_rfl)) (fun _ _ _ h => h) (Or.inl ⟨by rfl, ?_⟩) ?_ ?_
      rotate_left
      · intro w'
        go_simp
        with_reducible rfl
      rotate_left
      · simp only [Act.put, List.setIfInBounds_toArray, List.set_cons_zero, List.set_cons_succ, i64_w, i32_w]
        rfl
      refine pure_ (i := 4) (N := some 90) (v := ?_) (a' := ?_) #[true, true, true, true, true, false, false, false, false, false, false, false, false, false, false, false, false, false, false, false] rfl rfl (any_of HT_.out (by kernel_rfl)) (fun _ _ _ h => h) (Or.inl ⟨by rfl, ?_⟩) ?_ ?_
      rotate_left
      · intro w'
        go_simp
        with_reducible rfl
      rotate_left
      · simp only [Act.put, List.setIfInBounds_toArray, List.set_cons_zero, List.set_cons_succ, i64_w, i32_w]
        rfl
      refine pure_ (i := 6) (N := some 92) (v := ?_) (a' := ?_) #[true, true, true, true, true, false, true, false, false, false, false, false, false, false, false, false, false, false, false, false] rfl rfl (any_of HT_.out (by kernel_rfl)) (fun _ _ _ h => h) (Or.inl ⟨by rfl, ?_⟩) ?_ ?_
      rotate_left
      · intro w'
        go_simp
        with_reducible rfl
      rotate_left
      · simp only [Act.put, List.setIfInBounds_toArray, List.set_cons_zero, List.set_cons_succ, i64_w, i32_w]
        rfl
      refine pure_ (i := 7) (N := some 93) (v := ?_) (a' := ?_) #[true, true, true, true, true, false, true, true, false, false, false, false, false, false, false, false, false, false, false, false] rfl rfl (any_of HT_.out (by kernel_rfl)) (fun _ _ _ h => h) (Or.inl ⟨by rfl, ?_⟩) ?_ ?_
      rotate_left
      · intro w'
        go_simp
        with_reducible rfl
      rotate_left
      · simp only [Act.put, List.setIfInBounds_toArray, List.set_cons_zero, List.set_cons_succ, i64_w, i32_w]
        rfl
      refine pure_ (i := 9) (N := some 95) (v := ?_) (a' := ?_) #[true, true, true, true, true, false, true, true, false, true, false, false, false, false, false, false, false, false, false, false] rfl rfl (any_of HT_.out (by kernel_rfl)) (fun _ _ _ h => h) (Or.inl ⟨by rfl, ?_⟩) ?_ ?_
      rotate_left
      · intro w'
        go_simp
        with_reducible rfl
      rotate_left
      · simp only [Act.put, List.setIfInBounds_toArray, List.set_cons_zero, List.set_cons_succ, i64_w, i32_w]
        rfl
      refine join_ (σ := Nat × Nat × Nat) 0 #[true, true, true, true, true, true, true, true, true, true, true, true, true, true, true, true, true, true, true, true] (fun s => [(91, .slice (some ⟨s.1, 0, none⟩) N1 N1), (94, .slice (some ⟨s.2.1, 0, none⟩) N1 N1), (96, .slice (some ⟨s.2.2, 0, none⟩) n n), (97, .pointer (some ⟨B, 0, none⟩)), (98, .pointer (some ⟨B, 2, none⟩)), (99, .pointer (some ⟨B, 0, none⟩)), (100, .pointer (some ⟨B, 3, none⟩)), (101, .pointer (some ⟨B, 0, none⟩)), (102, .pointer (some ⟨B, 4, none⟩))]) (fun s w' => MkF W M B l rk (.slice (some ⟨G, 0, none⟩) n c2) sl N1 n (some s.1) (some s.2.1) (some s.2.2) (.slice (some ⟨s.1, 0, none⟩) N1 N1) (.slice (some ⟨s.2.1, 0, none⟩) N1 N1) (.slice (some ⟨s.2.2, 0, none⟩) n n) w') ?hcont (fun HCONT => ?htree)
      case htree =>
        refine three_ (i := 5) (Ni := some 91) (j := 8) (Nj := some 94) (k := 10) (Nk := some 96) #[true, true, true, true, true, true, true, true, false, true, false, false, false, false, false, false, false, false, false, false] #[true, true, true, true, true, false, true, true, true, true, false, false, false, false, false, false, false, false, false, false] #[true, true, true, true, true, false, true, true, false, true, true, false, false, false, false, false, false, false, false, false] rfl rfl rfl rfl rfl rfl (three_of HT_.out (by kernel_rfl)) (by decide) (by decide) (by decide) (fun K hK => ?_) (fun K hK => ?_) (fun K hK => ?_)
        · skip
          refine value_ (by rfl) rfl (mk_run 33 3 (.tmp 90) (.tmp 90) rfl N1 (by first | rfl | exact congrArg (Value.int .i64) en) (by first | rfl | exact congrArg (Value.int .i64) en) Try.underlying33 (.int .i64 0) 8 info3 rfl hN1b (by decide)) ?_
          refine hK.out _ _ trivial (fun _ => ?_)
          clear hK K
          have nF := F0.low HMW.out
          obtain ⟨g5, hg⟩ : ∃ g, g = wq0.heap.size := ⟨_, rfl⟩
          obtain ⟨wq1, hw⟩ : ∃ w, w = wq0.alloc (.cells (Array.replicate N1 (.int .i64 0)) 3) := ⟨_, rfl⟩
          rw [← hg, ← hw] at nF
          rw [← hg, ← hw]
          clear hg hw F0
          have F0 := nF
          clear nF
          refine norm_ (a' := ?_) ?_ ?_
          rotate_left
          · show Act.put _ (some 91) _ = _
            simp only [Act.put, List.setIfInBounds_toArray, List.set_cons_zero, List.set_cons_succ, i64_w, i32_w]
            rfl
          refine pure_ (i := 11) (N := some 97) (v := ?_) (a' := ?_) #[true, true, true, true, true, true, true, true, false, true, false, true, false, false, false, false, false, false, false, false] rfl rfl (any_of HT_.out (by kernel_rfl)) (fun _ _ _ h => h) (Or.inl ⟨by rfl, ?_⟩) ?_ ?_
          rotate_left
          · intro w'
            go_simp
            with_reducible rfl
          rotate_left
          · simp only [Act.put, List.setIfInBounds_toArray, List.set_cons_zero, List.set_cons_succ, i64_w, i32_w]
            rfl
          refine pure_ (i := 12) (N := some 98) (v := ?_) (a' := ?_) #[true, true, true, true, true, true, true, true, false, true, false, true, true, false, false, false, false, false, false, false] rfl rfl (any_of HT_.out (by kernel_rfl)) (fun _ _ _ h => h) (Or.inl ⟨by rfl, ?_⟩) ?_ ?_
          rotate_left
          · intro w'
            go_simp
            with_reducible rfl
          rotate_left
          · simp only [Act.put, List.setIfInBounds_toArray, List.set_cons_zero, List.set_cons_succ, i64_w, i32_w]
            rfl
          refine three_ (i := 8) (Ni := some 94) (j := 10) (Nj := some 96) (k := 13) (Nk := none) #[true, true, true, true, true, true, true, true, true, true, false, true, true, false, false, false, false, false, false, false] #[true, true, true, true, true, true, true, true, false, true, true, true, true, false, false, false, false, false, false, false] #[true, true, true, true, true, true, true, true, false, true, false, true, true, true, false, false, false, false, false, false] rfl rfl rfl rfl rfl rfl (three_of HT_.out (by kernel_rfl)) (by decide) (by decide) (by decide) (fun K hK => ?_) (fun K hK => ?_) (fun K hK => ?_)
          · skip
            refine value_ (by rfl) rfl (mk_run 33 3 (.tmp 93) (.tmp 93) rfl N1 (by first | rfl | exact congrArg (Value.int .i64) en) (by first | rfl | exact congrArg (Value.int .i64) en) Try.underlying33 (.int .i64 0) 8 info3 rfl hN1b (by decide)) ?_
            refine hK.out _ _ trivial (fun _ => ?_)
            clear hK K
            have nF := F0.high HMW.out
            obtain ⟨g8, hg⟩ : ∃ g, g = wq1.heap.size := ⟨_, rfl⟩
            obtain ⟨wq2, hw⟩ : ∃ w, w = wq1.alloc (.cells (Array.replicate N1 (.int .i64 0)) 3) := ⟨_, rfl⟩
            rw [← hg, ← hw] at nF
            rw [← hg, ← hw]
            clear hg hw F0
            have F0 := nF
            clear nF
            refine norm_ (a' := ?_) ?_ ?_
            rotate_left
            · show Act.put _ (some 94) _ = _
              simp only [Act.put, List.setIfInBounds_toArray, List.set_cons_zero, List.set_cons_succ, i64_w, i32_w]
              rfl
            refine two_ (i := 10) (Ni := some 96) (j := 13) (Nj := none) #[true, true, true, true, true, true, true, true, true, true, true, true, true, false, false, false, false, false, false, false] #[true, true, true, true, true, true, true, true, true, true, false, true, true, true, false, false, false, false, false, false] rfl rfl rfl rfl (two_of HT_.out (by kernel_rfl)) (by decide) (by decide) (fun K hK => ?_) (fun K hK => ?_)
            · skip
              refine value_ (by rfl) rfl (mk_run 32 33 (.tmp 95) (.tmp 95) rfl n (by first | rfl | exact congrArg (Value.int .i64) en) (by first | rfl | exact congrArg (Value.int .i64) en) Try.underlying32 (.slice none 0 0) 24 info33 rfl hnb (by decide)) ?_
              refine hK.out _ _ trivial (fun _ => ?_)
              clear hK K
              have nF := F0.list HMW.out
              obtain ⟨g10, hg⟩ : ∃ g, g = wq2.heap.size := ⟨_, rfl⟩
              obtain ⟨wq3, hw⟩ : ∃ w, w = wq2.alloc (.cells (Array.replicate n (.slice none 0 0)) 33) := ⟨_, rfl⟩
              rw [← hg, ← hw] at nF
              rw [← hg, ← hw]
              clear hg hw F0
              have F0 := nF
              clear nF
              refine norm_ (a' := ?_) ?_ ?_
              rotate_left
              · show Act.put _ (some 96) _ = _
                simp only [Act.put, List.setIfInBounds_toArray, List.set_cons_zero, List.set_cons_succ, i64_w, i32_w]
                rfl
              refine one_ (i := 13) (N := none) #[true, true, true, true, true, true, true, true, true, true, true, true, true, true, false, false, false, false, false, false] rfl rfl (one_of HT_.out (by kernel_rfl)) (by decide) (fun K hK => ?_)
              have hcc := F0.box.c2
              have hfr := F0.box.fr 2
              refine skip_ (w1 := ?_) (by rfl) rfl ?_ ?_
              rotate_left
              · go_simp
                rfl
              refine hK.out _ _ trivial (fun _ => ?_)
              clear hK K hcc hfr
              have nF := F0.set hMBw 2 (.slice (some ⟨g5, 0, none⟩) N1 N1) (F0.box.set2 _)
              obtain ⟨wq4, hw⟩ : ∃ w, w = wq3.setCell ⟨B, 2, none⟩ (.slice (some ⟨g5, 0, none⟩) N1 N1) := ⟨_, rfl⟩
              rw [← hw] at nF
              rw [← hw]
              clear hw F0
              have F0 := nF
              clear nF
              refine pure_ (i := 14) (N := some 99) (v := ?_) (a' := ?_) #[true, true, true, true, true, true, true, true, true, true, true, true, true, true, true, false, false, false, false, false] rfl rfl (any_of HT_.out (by kernel_rfl)) (fun _ _ _ h => h) (Or.inl ⟨by rfl, ?_⟩) ?_ ?_
              rotate_left
              · intro w'
                go_simp
                with_reducible rfl
              rotate_left
              · simp only [Act.put, List.setIfInBounds_toArray, List.set_cons_zero, List.set_cons_succ, i64_w, i32_w]
                rfl
              refine pure_ (i := 15) (N := some 100) (v := ?_) (a' := ?_) #[true, true, true, true, true, true, true, true, true, true, true, true, true, true, true, true, false, false, false, false] rfl rfl (any_of HT_.out (by kernel_rfl)) (fun _ _ _ h => h) (Or.inl ⟨by rfl, ?_⟩) ?_ ?_
              rotate_left
              · intro w'
                go_simp
                with_reducible rfl
              rotate_left
              · simp only [Act.put, List.setIfInBounds_toArray, List.set_cons_zero, List.set_cons_succ, i64_w, i32_w]
                rfl
              refine one_ (i := 16) (N := none) #[true, true, true, true, true, true, true, true, true, true, true, true, true, true, true, true, true, false, false, false] rfl rfl (one_of HT_.out (by kernel_rfl)) (by decide) (fun K hK => ?_)
              have hcc := F0.box.c3
              have hfr := F0.box.fr 3
              refine skip_ (w1 := ?_) (by rfl) rfl ?_ ?_
              rotate_left
              · go_simp
                rfl
              refine hK.out _ _ trivial (fun _ => ?_)
              clear hK K hcc hfr
              have nF := F0.set hMBw 3 (.slice (some ⟨g8, 0, none⟩) N1 N1) (F0.box.set3 _)
              obtain ⟨wq5, hw⟩ : ∃ w, w = wq4.setCell ⟨B, 3, none⟩ (.slice (some ⟨g8, 0, none⟩) N1 N1) := ⟨_, rfl⟩
              rw [← hw] at nF
              rw [← hw]
              clear hw F0
              have F0 := nF
              clear nF
              refine pure_ (i := 17) (N := some 101) (v := ?_) (a' := ?_) #[true, true, true, true, true, true, true, true, true, true, true, true, true, true, true, true, true, true, false, false] rfl rfl (any_of HT_.out (by kernel_rfl)) (fun _ _ _ h => h) (Or.inl ⟨by rfl, ?_⟩) ?_ ?_
              rotate_left
              · intro w'
                go_simp
                with_reducible rfl
              rotate_left
              · simp only [Act.put, List.setIfInBounds_toArray, List.set_cons_zero, List.set_cons_succ, i64_w, i32_w]
                rfl
              refine pure_ (i := 18) (N := some 102) (v := ?_) (a' := ?_) #[true, true, true, true, true, true, true, true, true, true, true, true, true, true, true, true, true, true, true, false] rfl rfl (any_of HT_.out (by kernel_rfl)) (fun _ _ _ h => h) (Or.inl ⟨by rfl, ?_⟩) ?_ ?_
              rotate_left
              · intro w'
                go_simp
                with_reducible rfl
              rotate_left
              · simp only [Act.put, List.setIfInBounds_toArray, List.set_cons_zero, List.set_cons_succ, i64_w, i32_w]
                rfl
              refine one_ (i := 19) (N := none) #[true, true, true, true, true, true, true, true, true, true, true, true, true, true, true, true, true, true, true, true] rfl rfl (one_of HT_.out (by kernel_rfl)) (by decide) (fun K hK => ?_)
              have hcc := F0.box.c4
              have hfr := F0.box.fr 4
              refine skip_ (w1 := ?_) (by rfl) rfl ?_ ?_
              rotate_left
              · go_simp
                rfl
              refine hK.out _ _ trivial (fun _ => ?_)
              clear hK K hcc hfr
              have nF := F0.set hMBw 4 (.slice (some ⟨g10, 0, none⟩) n n) (F0.box.set4 _)
              obtain ⟨wq6, hw⟩ : ∃ w, w = wq5.setCell ⟨B, 4, none⟩ (.slice (some ⟨g10, 0, none⟩) n n) := ⟨_, rfl⟩
              rw [← hw] at nF
              rw [← hw]
              clear hw F0
              have F0 := nF
              clear nF
              have hc := HCONT (g5, g8, g10) wq6 F0
              simp only [putAll, Act.put, List.setIfInBounds_toArray, List.set_cons_zero, List.set_cons_succ] at hc
              exact hc
            · skip
              have hcc := F0.box.c2
              have hfr := F0.box.fr 2
              refine skip_ (w1 := ?_) (by rfl) rfl ?_ ?_
              rotate_left
              · go_simp
                rfl
              refine hK.out _ _ trivial (fun _ => ?_)
              clear hK K hcc hfr
              have nF := F0.set hMBw 2 (.slice (some ⟨g5, 0, none⟩) N1 N1) (F0.box.set2 _)
              obtain ⟨wq7, hw⟩ : ∃ w, w = wq2.setCell ⟨B, 2, none⟩ (.slice (some ⟨g5, 0, none⟩) N1 N1) := ⟨_, rfl⟩
              rw [← hw] at nF
              rw [← hw]
              clear hw F0
              have F0 := nF
              clear nF
              refine pure_ (i := 14) (N := some 99) (v := ?_) (a' := ?_) #[true, true, true, true, true, true, true, true, true, true, false, true, true, true, true, false, false, false, false, false] rfl rfl (any_of HT_.out (by kernel_rfl)) (fun _ _ _ h => h) (Or.inl ⟨by rfl, ?_⟩) ?_ ?_
              rotate_left
              · intro w'
                go_simp
                with_reducible rfl
              rotate_left
              · simp only [Act.put, List.setIfInBounds_toArray, List.set_cons_zero, List.set_cons_succ, i64_w, i32_w]
                rfl
              refine pure_ (i := 15) (N := some 100) (v := ?_) (a' := ?_) #[true, true, true, true, true, true, true, true, true, true, false, true, true, true, true, true, false, false, false, false] rfl rfl (any_of HT_.out (by kernel_rfl)) (fun _ _ _ h => h) (Or.inl ⟨by rfl, ?_⟩) ?_ ?_
              rotate_left
              · intro w'
                go_simp
                with_reducible rfl
              rotate_left
              · simp only [Act.put, List.setIfInBounds_toArray, List.set_cons_zero, List.set_cons_succ, i64_w, i32_w]
                rfl
              refine two_ (i := 10) (Ni := some 96) (j := 16) (Nj := none) #[true, true, true, true, true, true, true, true, true, true, true, true, true, true, true, true, false, false, false, false] #[true, true, true, true, true, true, true, true, true, true, false, true, true, true, true, true, true, false, false, false] rfl rfl rfl rfl (two_of HT_.out (by kernel_rfl)) (by decide) (by decide) (fun K hK => ?_) (fun K hK => ?_)
              · skip
                refine value_ (by rfl) rfl (mk_run 32 33 (.tmp 95) (.tmp 95) rfl n (by first | rfl | exact congrArg (Value.int .i64) en) (by first | rfl | exact congrArg (Value.int .i64) en) Try.underlying32 (.slice none 0 0) 24 info33 rfl hnb (by decide)) ?_
                refine hK.out _ _ trivial (fun _ => ?_)
                clear hK K
                have nF := F0.list HMW.out
                obtain ⟨g10, hg⟩ : ∃ g, g = wq7.heap.size := ⟨_, rfl⟩
                obtain ⟨wq8, hw⟩ : ∃ w, w = wq7.alloc (.cells (Array.replicate n (.slice none 0 0)) 33) := ⟨_, rfl⟩
                rw [← hg, ← hw] at nF
                rw [← hg, ← hw]
                clear hg hw F0
                have F0 := nF
                clear nF
                refine norm_ (a' := ?_) ?_ ?_
                rotate_left
                · show Act.put _ (some 96) _ = _
                  simp only [Act.put, List.setIfInBounds_toArray, List.set_cons_zero, List.set_cons_succ, i64_w, i32_w]
                  rfl
                refine one_ (i := 16) (N := none) #[true, true, true, true, true, true, true, true, true, true, true, true, true, true, true, true, true, false, false, false] rfl rfl (one_of HT_.out (by kernel_rfl)) (by decide) (fun K hK => ?_)
                have hcc := F0.box.c3
                have hfr := F0.box.fr 3
                refine skip_ (w1 := ?_) (by rfl) rfl ?_ ?_
                rotate_left
                · go_simp
                  rfl
                refine hK.out _ _ trivial (fun _ => ?_)
                clear hK K hcc hfr
                have nF := F0.set hMBw 3 (.slice (some ⟨g8, 0, none⟩) N1 N1) (F0.box.set3 _)
                obtain ⟨wq9, hw⟩ : ∃ w, w = wq8.setCell ⟨B, 3, none⟩ (.slice (some ⟨g8, 0, none⟩) N1 N1) := ⟨_, rfl⟩
                rw [← hw] at nF
                rw [← hw]
                clear hw F0
                have F0 := nF
                clear nF
                refine pure_ (i := 17) (N := some 101) (v := ?_) (a' := ?_) #[true, true, true, true, true, true, true, true, true, true, true, true, true, true, true, true, true, true, false, false] rfl rfl (any_of HT_.out (by kernel_rfl)) (fun _ _ _ h => h) (Or.inl ⟨by rfl, ?_⟩) ?_ ?_
                rotate_left
                · intro w'
                  go_simp
                  with_reducible rfl
                rotate_left
                · simp only [Act.put, List.setIfInBounds_toArray, List.set_cons_zero, List.set_cons_succ, i64_w, i32_w]
                  rfl
                refine pure_ (i := 18) (N := some 102) (v := ?_) (a' := ?_) #[true, true, true, true, true, true, true, true, true, true, true, true, true, true, true, true, true, true, true, false] rfl rfl (any_of HT_.out (by kernel_rfl)) (fun _ _ _ h => h) (Or.inl ⟨by rfl, ?_⟩) ?_ ?_
                rotate_left
                · intro w'
                  go_simp
                  with_reducible rfl
                rotate_left
                · simp only [Act.put, List.setIfInBounds_toArray, List.set_cons_zero, List.set_cons_succ, i64_w, i32_w]
                  rfl
                refine one_ (i := 19) (N := none) #[true, true, true, true, true, true, true, true, true, true, true, true, true, true, true, true, true, true, true, true] rfl rfl (one_of HT_.out (by kernel_rfl)) (by decide) (fun K hK => ?_)
                have hcc := F0.box.c4
                have hfr := F0.box.fr 4
                refine skip_ (w1 := ?_) (by rfl) rfl ?_ ?_
                rotate_left
                · go_simp
                  rfl
                refine hK.out _ _ trivial (fun _ => ?_)
                clear hK K hcc hfr
                have nF := F0.set hMBw 4 (.slice (some ⟨g10, 0, none⟩) n n) (F0.box.set4 _)
                obtain ⟨wq10, hw⟩ : ∃ w, w = wq9.setCell ⟨B, 4, none⟩ (.slice (some ⟨g10, 0, none⟩) n n) := ⟨_, rfl⟩
                rw [← hw] at nF
                rw [← hw]
                clear hw F0
                have F0 := nF
                clear nF
                have hc := HCONT (g5, g8, g10) wq10 F0
                simp only [putAll, Act.put, List.setIfInBounds_toArray, List.set_cons_zero, List.set_cons_succ] at hc
                exact hc
              · skip
                have hcc := F0.box.c3
                have hfr := F0.box.fr 3
                refine skip_ (w1 := ?_) (by rfl) rfl ?_ ?_
                rotate_left
                · go_simp
                  rfl
                refine hK.out _ _ trivial (fun _ => ?_)
                clear hK K hcc hfr
                have nF := F0.set hMBw 3 (.slice (some ⟨g8, 0, none⟩) N1 N1) (F0.box.set3 _)
                obtain ⟨wq11, hw⟩ : ∃ w, w = wq7.setCell ⟨B, 3, none⟩ (.slice (some ⟨g8, 0, none⟩) N1 N1) := ⟨_, rfl⟩
                rw [← hw] at nF
                rw [← hw]
                clear hw F0
                have F0 := nF
                clear nF
                refine one_ (i := 10) (N := some 96) #[true, true, true, true, true, true, true, true, true, true, true, true, true, true, true, true, true, false, false, false] rfl rfl (one_of HT_.out (by kernel_rfl)) (by decide) (fun K hK => ?_)
                refine value_ (by rfl) rfl (mk_run 32 33 (.tmp 95) (.tmp 95) rfl n (by first | rfl | exact congrArg (Value.int .i64) en) (by first | rfl | exact congrArg (Value.int .i64) en) Try.underlying32 (.slice none 0 0) 24 info33 rfl hnb (by decide)) ?_
                refine hK.out _ _ trivial (fun _ => ?_)
                clear hK K
                have nF := F0.list HMW.out
                obtain ⟨g10, hg⟩ : ∃ g, g = wq11.heap.size := ⟨_, rfl⟩
                obtain ⟨wq12, hw⟩ : ∃ w, w = wq11.alloc (.cells (Array.replicate n (.slice none 0 0)) 33) := ⟨_, rfl⟩
                rw [← hg, ← hw] at nF
                rw [← hg, ← hw]
                clear hg hw F0
                have F0 := nF
                clear nF
                refine norm_ (a' := ?_) ?_ ?_
                rotate_left
                · show Act.put _ (some 96) _ = _
                  simp only [Act.put, List.setIfInBounds_toArray, List.set_cons_zero, List.set_cons_succ, i64_w, i32_w]
                  rfl
                refine pure_ (i := 17) (N := some 101) (v := ?_) (a' := ?_) #[true, true, true, true, true, true, true, true, true, true, true, true, true, true, true, true, true, true, false, false] rfl rfl (any_of HT_.out (by kernel_rfl)) (fun _ _ _ h => h) (Or.inl ⟨by rfl, ?_⟩) ?_ ?_
                rotate_left
                · intro w'
                  go_simp
                  with_reducible rfl
                rotate_left
                · simp only [Act.put, List.setIfInBounds_toArray, List.set_cons_zero, List.set_cons_succ, i64_w, i32_w]
                  rfl
                refine pure_ (i := 18) (N := some 102) (v := ?_) (a' := ?_) #[true, true, true, true, true, true, true, true, true, true, true, true, true, true, true, true, true, true, true, false] rfl rfl (any_of HT_.out (by kernel_rfl)) (fun _ _ _ h => h) (Or.inl ⟨by rfl, ?_⟩) ?_ ?_
                rotate_left
                · intro w'
                  go_simp
                  with_reducible rfl
                rotate_left
                · simp only [Act.put, List.setIfInBounds_toArray, List.set_cons_zero, List.set_cons_succ, i64_w, i32_w]
                  rfl
                refine one_ (i := 19) (N := none) #[true, true, true, true, true, true, true, true, true, true, true, true, true, true, true, true, true, true, true, true] rfl rfl (one_of HT_.out (by kernel_rfl)) (by decide) (fun K hK => ?_)
                have hcc := F0.box.c4
                have hfr := F0.box.fr 4
                refine skip_ (w1 := ?_) (by rfl) rfl ?_ ?_
                rotate_left
                · go_simp
                  rfl
                refine hK.out _ _ trivial (fun _ => ?_)
                clear hK K hcc hfr
                have nF := F0.set hMBw 4 (.slice (some ⟨g10, 0, none⟩) n n) (F0.box.set4 _)
                obtain ⟨wq13, hw⟩ : ∃ w, w = wq12.setCell ⟨B, 4, none⟩ (.slice (some ⟨g10, 0, none⟩) n n) := ⟨_, rfl⟩
                rw [← hw] at nF
                rw [← hw]
                clear hw F0
                have F0 := nF
                clear nF
                have hc := HCONT (g5, g8, g10) wq13 F0
                simp only [putAll, Act.put, List.setIfInBounds_toArray, List.set_cons_zero, List.set_cons_succ] at hc
                exact hc
          · skip
            refine value_ (by rfl) rfl (mk_run 32 33 (.tmp 95) (.tmp 95) rfl n (by first | rfl | exact congrArg (Value.int .i64) en) (by first | rfl | exact congrArg (Value.int .i64) en) Try.underlying32 (.slice none 0 0) 24 info33 rfl hnb (by decide)) ?_
            refine hK.out _ _ trivial (fun _ => ?_)
            clear hK K
            have nF := F0.list HMW.out
            obtain ⟨g10, hg⟩ : ∃ g, g = wq1.heap.size := ⟨_, rfl⟩
            obtain ⟨wq14, hw⟩ : ∃ w, w = wq1.alloc (.cells (Array.replicate n (.slice none 0 0)) 33) := ⟨_, rfl⟩
            rw [← hg, ← hw] at nF
            rw [← hg, ← hw]
            clear hg hw F0
            have F0 := nF
            clear nF
            refine norm_ (a' := ?_) ?_ ?_
            rotate_left
            · show Act.put _ (some 96) _ = _
              simp only [Act.put, List.setIfInBounds_toArray, List.set_cons_zero, List.set_cons_succ, i64_w, i32_w]
              rfl
            refine two_ (i := 8) (Ni := some 94) (j := 13) (Nj := none) #[true, true, true, true, true, true, true, true, true, true, true, true, true, false, false, false, false, false, false, false] #[true, true, true, true, true, true, true, true, false, true, true, true, true, true, false, false, false, false, false, false] rfl rfl rfl rfl (two_of HT_.out (by kernel_rfl)) (by decide) (by decide) (fun K hK => ?_) (fun K hK => ?_)
            · skip
              refine value_ (by rfl) rfl (mk_run 33 3 (.tmp 93) (.tmp 93) rfl N1 (by first | rfl | exact congrArg (Value.int .i64) en) (by first | rfl | exact congrArg (Value.int .i64) en) Try.underlying33 (.int .i64 0) 8 info3 rfl hN1b (by decide)) ?_
              refine hK.out _ _ trivial (fun _ => ?_)
              clear hK K
              have nF := F0.high HMW.out
              obtain ⟨g8, hg⟩ : ∃ g, g = wq14.heap.size := ⟨_, rfl⟩
              obtain ⟨wq15, hw⟩ : ∃ w, w = wq14.alloc (.cells (Array.replicate N1 (.int .i64 0)) 3) := ⟨_, rfl⟩
              rw [← hg, ← hw] at nF
              rw [← hg, ← hw]
              clear hg hw F0
              have F0 := nF
              clear nF
              refine norm_ (a' := ?_) ?_ ?_
              rotate_left
              · show Act.put _ (some 94) _ = _
                simp only [Act.put, List.setIfInBounds_toArray, List.set_cons_zero, List.set_cons_succ, i64_w, i32_w]
                rfl
              refine one_ (i := 13) (N := none) #[true, true, true, true, true, true, true, true, true, true, true, true, true, true, false, false, false, false, false, false] rfl rfl (one_of HT_.out (by kernel_rfl)) (by decide) (fun K hK => ?_)
              have hcc := F0.box.c2
              have hfr := F0.box.fr 2
              refine skip_ (w1 := ?_) (by rfl) rfl ?_ ?_
              rotate_left
              · go_simp
                rfl
              refine hK.out _ _ trivial (fun _ => ?_)
              clear hK K hcc hfr
              have nF := F0.set hMBw 2 (.slice (some ⟨g5, 0, none⟩) N1 N1) (F0.box.set2 _)
              obtain ⟨wq16, hw⟩ : ∃ w, w = wq15.setCell ⟨B, 2, none⟩ (.slice (some ⟨g5, 0, none⟩) N1 N1) := ⟨_, rfl⟩
              rw [← hw] at nF
              rw [← hw]
              clear hw F0
              have F0 := nF
              clear nF
              refine pure_ (i := 14) (N := some 99) (v := ?_) (a' := ?_) #[true, true, true, true, true, true, true, true, true, true, true, true, true, true, true, false, false, false, false, false] rfl rfl (any_of HT_.out (by kernel_rfl)) (fun _ _ _ h => h) (Or.inl ⟨by rfl, ?_⟩) ?_ ?_
              rotate_left
              · intro w'
                go_simp
                with_reducible rfl
              rotate_left
              · simp only [Act.put, List.setIfInBounds_toArray, List.set_cons_zero, List.set_cons_succ, i64_w, i32_w]
                rfl
              refine pure_ (i := 15) (N := some 100) (v := ?_) (a' := ?_) #[true, true, true, true, true, true, true, true, true, true, true, true, true, true, true, true, false, false, false, false] rfl rfl (any_of HT_.out (by kernel_rfl)) (fun _ _ _ h => h) (Or.inl ⟨by rfl, ?_⟩) ?_ ?_
              rotate_left
              · intro w'
                go_simp
                with_reducible rfl
              rotate_left
              · simp only [Act.put, List.setIfInBounds_toArray, List.set_cons_zero, List.set_cons_succ, i64_w, i32_w]
                rfl
              refine one_ (i := 16) (N := none) #[true, true, true, true, true, true, true, true, true, true, true, true, true, true, true, true, true, false, false, false] rfl rfl (one_of HT_.out (by kernel_rfl)) (by decide) (fun K hK => ?_)
              have hcc := F0.box.c3
              have hfr := F0.box.fr 3
              refine skip_ (w1 := ?_) (by rfl) rfl ?_ ?_
              rotate_left
              · go_simp
                rfl
              refine hK.out _ _ trivial (fun _ => ?_)
              clear hK K hcc hfr
              have nF := F0.set hMBw 3 (.slice (some ⟨g8, 0, none⟩) N1 N1) (F0.box.set3 _)
              obtain ⟨wq17, hw⟩ : ∃ w, w = wq16.setCell ⟨B, 3, none⟩ (.slice (some ⟨g8, 0, none⟩) N1 N1) := ⟨_, rfl⟩
              rw [← hw] at nF
              rw [← hw]
              clear hw F0
              have F0 := nF
              clear nF
              refine pure_ (i := 17) (N := some 101) (v := ?_) (a' := ?_) #[true, true, true, true, true, true, true, true, true, true, true, true, true, true, true, true, true, true, false, false] rfl rfl (any_of HT_.out (by kernel_rfl)) (fun _ _ _ h => h) (Or.inl ⟨by rfl, ?_⟩) ?_ ?_
              rotate_left
              · intro w'
                go_simp
                with_reducible rfl
              rotate_left
              · simp only [Act.put, List.setIfInBounds_toArray, List.set_cons_zero, List.set_cons_succ, i64_w, i32_w]
                rfl
              refine pure_ (i := 18) (N := some 102) (v := ?_) (a' := ?_) #[true, true, true, true, true, true, true, true, true, true, true, true, true, true, true, true, true, true, true, false] rfl rfl (any_of HT_.out (by kernel_rfl)) (fun _ _ _ h => h) (Or.inl ⟨by rfl, ?_⟩) ?_ ?_
              rotate_left
              · intro w'
                go_simp
                with_reducible rfl
              rotate_left
              · simp only [Act.put, List.setIfInBounds_toArray, List.set_cons_zero, List.set_cons_succ, i64_w, i32_w]
                rfl
              refine one_ (i := 19) (N := none) #[true, true, true, true, true, true, true, true, true, true, true, true, true, true, true, true, true, true, true, true] rfl rfl (one_of HT_.out (by kernel_rfl)) (by decide) (fun K hK => ?_)
              have hcc := F0.box.c4
              have hfr := F0.box.fr 4
              refine skip_ (w1 := ?_) (by rfl) rfl ?_ ?_
              rotate_left
              · go_simp
                rfl
              refine hK.out _ _ trivial (fun _ => ?_)
              clear hK K hcc hfr
              have nF := F0.set hMBw 4 (.slice (some ⟨g10, 0, none⟩) n n) (F0.box.set4 _)
              obtain ⟨wq18, hw⟩ : ∃ w, w = wq17.setCell ⟨B, 4, none⟩ (.slice (some ⟨g10, 0, none⟩) n n) := ⟨_, rfl⟩
              rw [← hw] at nF
              rw [← hw]
              clear hw F0
              have F0 := nF
              clear nF
              have hc := HCONT (g5, g8, g10) wq18 F0
              simp only [putAll, Act.put, List.setIfInBounds_toArray, List.set_cons_zero, List.set_cons_succ] at hc
              exact hc
            · skip
              have hcc := F0.box.c2
              have hfr := F0.box.fr 2
              refine skip_ (w1 := ?_) (by rfl) rfl ?_ ?_
              rotate_left
              · go_simp
                rfl
              refine hK.out _ _ trivial (fun _ => ?_)
              clear hK K hcc hfr
              have nF := F0.set hMBw 2 (.slice (some ⟨g5, 0, none⟩) N1 N1) (F0.box.set2 _)
              obtain ⟨wq19, hw⟩ : ∃ w, w = wq14.setCell ⟨B, 2, none⟩ (.slice (some ⟨g5, 0, none⟩) N1 N1) := ⟨_, rfl⟩
              rw [← hw] at nF
              rw [← hw]
              clear hw F0
              have F0 := nF
              clear nF
              refine one_ (i := 8) (N := some 94) #[true, true, true, true, true, true, true, true, true, true, true, true, true, true, false, false, false, false, false, false] rfl rfl (one_of HT_.out (by kernel_rfl)) (by decide) (fun K hK => ?_)
              refine value_ (by rfl) rfl (mk_run 33 3 (.tmp 93) (.tmp 93) rfl N1 (by first | rfl | exact congrArg (Value.int .i64) en) (by first | rfl | exact congrArg (Value.int .i64) en) Try.underlying33 (.int .i64 0) 8 info3 rfl hN1b (by decide)) ?_
              refine hK.out _ _ trivial (fun _ => ?_)
              clear hK K
              have nF := F0.high HMW.out
              obtain ⟨g8, hg⟩ : ∃ g, g = wq19.heap.size := ⟨_, rfl⟩
              obtain ⟨wq20, hw⟩ : ∃ w, w = wq19.alloc (.cells (Array.replicate N1 (.int .i64 0)) 3) := ⟨_, rfl⟩
              rw [← hg, ← hw] at nF
              rw [← hg, ← hw]
              clear hg hw F0
              have F0 := nF
              clear nF
              refine norm_ (a' := ?_) ?_ ?_
              rotate_left
              · show Act.put _ (some 94) _ = _
                simp only [Act.put, List.setIfInBounds_toArray, List.set_cons_zero, List.set_cons_succ, i64_w, i32_w]
                rfl
              refine pure_ (i := 14) (N := some 99) (v := ?_) (a' := ?_) #[true, true, true, true, true, true, true, true, true, true, true, true, true, true, true, false, false, false, false, false] rfl rfl (any_of HT_.out (by kernel_rfl)) (fun _ _ _ h => h) (Or.inl ⟨by rfl, ?_⟩) ?_ ?_
              rotate_left
              · intro w'
                go_simp
                with_reducible rfl
              rotate_left
              · simp only [Act.put, List.setIfInBounds_toArray, List.set_cons_zero, List.set_cons_succ, i64_w, i32_w]
                rfl
              refine pure_ (i := 15) (N := some 100) (v := ?_) (a' := ?_) #[true, true, true, true, true, true, true, true, true, true, true, true, true, true, true, true, false, false, false, false] rfl rfl (any_of HT_.out (by kernel_rfl)) (fun _ _ _ h => h) (Or.inl ⟨by rfl, ?_⟩) ?_ ?_
              rotate_left
              · intro w'
                go_simp
                with_reducible rfl
              rotate_left
              · simp only [Act.put, List.setIfInBounds_toArray, List.set_cons_zero, List.set_cons_succ, i64_w, i32_w]
                rfl
              refine one_ (i := 16) (N := none) #[true, true, true, true, true, true, true, true, true, true, true, true, true, true, true, true, true, false, false, false] rfl rfl (one_of HT_.out (by kernel_rfl)) (by decide) (fun K hK => ?_)
              have hcc := F0.box.c3
              have hfr := F0.box.fr 3
              refine skip_ (w1 := ?_) (by rfl) rfl ?_ ?_
              rotate_left
              · go_simp
                rfl
              refine hK.out _ _ trivial (fun _ => ?_)
              clear hK K hcc hfr
              have nF := F0.set hMBw 3 (.slice (some ⟨g8, 0, none⟩) N1 N1) (F0.box.set3 _)
              obtain ⟨wq21, hw⟩ : ∃ w, w = wq20.setCell ⟨B, 3, none⟩ (.slice (some ⟨g8, 0, none⟩) N1 N1) := ⟨_, rfl⟩
              rw [← hw] at nF
              rw [← hw]
              clear hw F0
              have F0 := nF
              clear nF
              refine pure_ (i := 17) (N := some 101) (v := ?_) (a' := ?_) #[true, true, true, true, true, true, true, true, true, true, true, true, true, true, true, true, true, true, false, false] rfl rfl (any_of HT_.out (by kernel_rfl)) (fun _ _ _ h => h) (Or.inl ⟨by rfl, ?_⟩) ?_ ?_
              rotate_left
              · intro w'
                go_simp
                with_reducible rfl
              rotate_left
              · simp only [Act.put, List.setIfInBounds_toArray, List.set_cons_zero, List.set_cons_succ, i64_w, i32_w]
                rfl
              refine pure_ (i := 18) (N := some 102) (v := ?_) (a' := ?_) #[true, true, true, true, true, true, true, true, true, true, true, true, true, true, true, true, true, true, true, false] rfl rfl (any_of HT_.out (by kernel_rfl)) (fun _ _ _ h => h) (Or.inl ⟨by rfl, ?_⟩) ?_ ?_
              rotate_left
              · intro w'
                go_simp
                with_reducible rfl
              rotate_left
              · simp only [Act.put, List.setIfInBounds_toArray, List.set_cons_zero, List.set_cons_succ, i64_w, i32_w]
                rfl
              refine one_ (i := 19) (N := none) #[true, true, true, true, true, true, true, true, true, true, true, true, true, true, true, true, true, true, true, true] rfl rfl (one_of HT_.out (by kernel_rfl)) (by decide) (fun K hK => ?_)
              have hcc := F0.box.c4
              have hfr := F0.box.fr 4
              refine skip_ (w1 := ?_) (by rfl) rfl ?_ ?_
              rotate_left
              · go_simp
                rfl
              refine hK.out _ _ trivial (fun _ => ?_)
              clear hK K hcc hfr
              have nF := F0.set hMBw 4 (.slice (some ⟨g10, 0, none⟩) n n) (F0.box.set4 _)
              obtain ⟨wq22, hw⟩ : ∃ w, w = wq21.setCell ⟨B, 4, none⟩ (.slice (some ⟨g10, 0, none⟩) n n) := ⟨_, rfl⟩
              rw [← hw] at nF
              rw [← hw]
              clear hw F0
              have F0 := nF
              clear nF
              have hc := HCONT (g5, g8, g10) wq22 F0
              simp only [putAll, Act.put, List.setIfInBounds_toArray, List.set_cons_zero, List.set_cons_succ] at hc
              exact hc
          · skip
            have hcc := F0.box.c2
            have hfr := F0.box.fr 2
            refine skip_ (w1 := ?_) (by rfl) rfl ?_ ?_
            rotate_left
            · go_simp
              rfl
            refine hK.out _ _ trivial (fun _ => ?_)
            clear hK K hcc hfr
            have nF := F0.set hMBw 2 (.slice (some ⟨g5, 0, none⟩) N1 N1) (F0.box.set2 _)
            obtain ⟨wq23, hw⟩ : ∃ w, w = wq1.setCell ⟨B, 2, none⟩ (.slice (some ⟨g5, 0, none⟩) N1 N1) := ⟨_, rfl⟩
            rw [← hw] at nF
            rw [← hw]
            clear hw F0
            have F0 := nF
            clear nF
            refine two_ (i := 8) (Ni := some 94) (j := 10) (Nj := some 96) #[true, true, true, true, true, true, true, true, true, true, false, true, true, true, false, false, false, false, false, false] #[true, true, true, true, true, true, true, true, false, true, true, true, true, true, false, false, false, false, false, false] rfl rfl rfl rfl (two_of HT_.out (by kernel_rfl)) (by decide) (by decide) (fun K hK => ?_) (fun K hK => ?_)
            · skip
              refine value_ (by rfl) rfl (mk_run 33 3 (.tmp 93) (.tmp 93) rfl N1 (by first | rfl | exact congrArg (Value.int .i64) en) (by first | rfl | exact congrArg (Value.int .i64) en) Try.underlying33 (.int .i64 0) 8 info3 rfl hN1b (by decide)) ?_
              refine hK.out _ _ trivial (fun _ => ?_)
              clear hK K
              have nF := F0.high HMW.out
              obtain ⟨g8, hg⟩ : ∃ g, g = wq23.heap.size := ⟨_, rfl⟩
              obtain ⟨wq24, hw⟩ : ∃ w, w = wq23.alloc (.cells (Array.replicate N1 (.int .i64 0)) 3) := ⟨_, rfl⟩
              rw [← hg, ← hw] at nF
              rw [← hg, ← hw]
              clear hg hw F0
              have F0 := nF
              clear nF
              refine norm_ (a' := ?_) ?_ ?_
              rotate_left
              · show Act.put _ (some 94) _ = _
                simp only [Act.put, List.setIfInBounds_toArray, List.set_cons_zero, List.set_cons_succ, i64_w, i32_w]
                rfl
              refine pure_ (i := 14) (N := some 99) (v := ?_) (a' := ?_) #[true, true, true, true, true, true, true, true, true, true, false, true, true, true, true, false, false, false, false, false] rfl rfl (any_of HT_.out (by kernel_rfl)) (fun _ _ _ h => h) (Or.inl ⟨by rfl, ?_⟩) ?_ ?_
              rotate_left
              · intro w'
                go_simp
                with_reducible rfl
              rotate_left
              · simp only [Act.put, List.setIfInBounds_toArray, List.set_cons_zero, List.set_cons_succ, i64_w, i32_w]
                rfl
              refine pure_ (i := 15) (N := some 100) (v := ?_) (a' := ?_) #[true, true, true, true, true, true, true, true, true, true, false, true, true, true, true, true, false, false, false, false] rfl rfl (any_of HT_.out (by kernel_rfl)) (fun _ _ _ h => h) (Or.inl ⟨by rfl, ?_⟩) ?_ ?_
              rotate_left
              · intro w'
                go_simp
                with_reducible rfl
              rotate_left
              · simp only [Act.put, List.setIfInBounds_toArray, List.set_cons_zero, List.set_cons_succ, i64_w, i32_w]
                rfl
              refine two_ (i := 10) (Ni := some 96) (j := 16) (Nj := none) #[true, true, true, true, true, true, true, true, true, true, true, true, true, true, true, true, false, false, false, false] #[true, true, true, true, true, true, true, true, true, true, false, true, true, true, true, true, true, false, false, false] rfl rfl rfl rfl (two_of HT_.out (by kernel_rfl)) (by decide) (by decide) (fun K hK => ?_) (fun K hK => ?_)
              · skip
                refine value_ (by rfl) rfl (mk_run 32 33 (.tmp 95) (.tmp 95) rfl n (by first | rfl | exact congrArg (Value.int .i64) en) (by first | rfl | exact congrArg (Value.int .i64) en) Try.underlying32 (.slice none 0 0) 24 info33 rfl hnb (by decide)) ?_
                refine hK.out _ _ trivial (fun _ => ?_)
                clear hK K
                have nF := F0.list HMW.out
                obtain ⟨g10, hg⟩ : ∃ g, g = wq24.heap.size := ⟨_, rfl⟩
                obtain ⟨wq25, hw⟩ : ∃ w, w = wq24.alloc (.cells (Array.replicate n (.slice none 0 0)) 33) := ⟨_, rfl⟩
                rw [← hg, ← hw] at nF
                rw [← hg, ← hw]
                clear hg hw F0
                have F0 := nF
                clear nF
                refine norm_ (a' := ?_) ?_ ?_
                rotate_left
                · show Act.put _ (some 96) _ = _
                  simp only [Act.put, List.setIfInBounds_toArray, List.set_cons_zero, List.set_cons_succ, i64_w, i32_w]
                  rfl
                refine one_ (i := 16) (N := none) #[true, true, true, true, true, true, true, true, true, true, true, true, true, true, true, true, true, false, false, false] rfl rfl (one_of HT_.out (by kernel_rfl)) (by decide) (fun K hK => ?_)
                have hcc := F0.box.c3
                have hfr := F0.box.fr 3
                refine skip_ (w1 := ?_) (by rfl) rfl ?_ ?_
                rotate_left
                · go_simp
                  rfl
                refine hK.out _ _ trivial (fun _ => ?_)
                clear hK K hcc hfr
                have nF := F0.set hMBw 3 (.slice (some ⟨g8, 0, none⟩) N1 N1) (F0.box.set3 _)
                obtain ⟨wq26, hw⟩ : ∃ w, w = wq25.setCell ⟨B, 3, none⟩ (.slice (some ⟨g8, 0, none⟩) N1 N1) := ⟨_, rfl⟩
                rw [← hw] at nF
                rw [← hw]
                clear hw F0
                have F0 := nF
                clear nF
                refine pure_ (i := 17) (N := some 101) (v := ?_) (a' := ?_) #[true, true, true, true, true, true, true, true, true, true, true, true, true, true, true, true, true, true, false, false] rfl rfl (any_of HT_.out (by kernel_rfl)) (fun _ _ _ h => h) (Or.inl ⟨by rfl, ?_⟩) ?_ ?_
                rotate_left
                · intro w'
                  go_simp
                  with_reducible rfl
                rotate_left
                · simp only [Act.put, List.setIfInBounds_toArray, List.set_cons_zero, List.set_cons_succ, i64_w, i32_w]
                  rfl
                refine pure_ (i := 18) (N := some 102) (v := ?_) (a' := ?_) #[true, true, true, true, true, true, true, true, true, true, true, true, true, true, true, true, true, true, true, false] rfl rfl (any_of HT_.out (by kernel_rfl)) (fun _ _ _ h => h) (Or.inl ⟨by rfl, ?_⟩) ?_ ?_
                rotate_left
                · intro w'
                  go_simp
                  with_reducible rfl
                rotate_left
                · simp only [Act.put, List.setIfInBounds_toArray, List.set_cons_zero, List.set_cons_succ, i64_w, i32_w]
                  rfl
                refine one_ (i := 19) (N := none) #[true, true, true, true, true, true, true, true, true, true, true, true, true, true, true, true, true, true, true, true] rfl rfl (one_of HT_.out (by kernel_rfl)) (by decide) (fun K hK => ?_)
                have hcc := F0.box.c4
                have hfr := F0.box.fr 4
                refine skip_ (w1 := ?_) (by rfl) rfl ?_ ?_
                rotate_left
                · go_simp
                  rfl
                refine hK.out _ _ trivial (fun _ => ?_)
                clear hK K hcc hfr
                have nF := F0.set hMBw 4 (.slice (some ⟨g10, 0, none⟩) n n) (F0.box.set4 _)
                obtain ⟨wq27, hw⟩ : ∃ w, w = wq26.setCell ⟨B, 4, none⟩ (.slice (some ⟨g10, 0, none⟩) n n) := ⟨_, rfl⟩
                rw [← hw] at nF
                rw [← hw]
                clear hw F0
                have F0 := nF
                clear nF
                have hc := HCONT (g5, g8, g10) wq27 F0
                simp only [putAll, Act.put, List.setIfInBounds_toArray, List.set_cons_zero, List.set_cons_succ] at hc
                exact hc
              · skip
                have hcc := F0.box.c3
                have hfr := F0.box.fr 3
                refine skip_ (w1 := ?_) (by rfl) rfl ?_ ?_
                rotate_left
                · go_simp
                  rfl
                refine hK.out _ _ trivial (fun _ => ?_)
                clear hK K hcc hfr
                have nF := F0.set hMBw 3 (.slice (some ⟨g8, 0, none⟩) N1 N1) (F0.box.set3 _)
                obtain ⟨wq28, hw⟩ : ∃ w, w = wq24.setCell ⟨B, 3, none⟩ (.slice (some ⟨g8, 0, none⟩) N1 N1) := ⟨_, rfl⟩
                rw [← hw] at nF
                rw [← hw]
                clear hw F0
                have F0 := nF
                clear nF
                refine one_ (i := 10) (N := some 96) #[true, true, true, true, true, true, true, true, true, true, true, true, true, true, true, true, true, false, false, false] rfl rfl (one_of HT_.out (by kernel_rfl)) (by decide) (fun K hK => ?_)
                refine value_ (by rfl) rfl (mk_run 32 33 (.tmp 95) (.tmp 95) rfl n (by first | rfl | exact congrArg (Value.int .i64) en) (by first | rfl | exact congrArg (Value.int .i64) en) Try.underlying32 (.slice none 0 0) 24 info33 rfl hnb (by decide)) ?_
                refine hK.out _ _ trivial (fun _ => ?_)
                clear hK K
                have nF := F0.list HMW.out
                obtain ⟨g10, hg⟩ : ∃ g, g = wq28.heap.size := ⟨_, rfl⟩
                obtain ⟨wq29, hw⟩ : ∃ w, w = wq28.alloc (.cells (Array.replicate n (.slice none 0 0)) 33) := ⟨_, rfl⟩
                rw [← hg, ← hw] at nF
                rw [← hg, ← hw]
                clear hg hw F0
                have F0 := nF
                clear nF
                refine norm_ (a' := ?_) ?_ ?_
                rotate_left
                · show Act.put _ (some 96) _ = _
                  simp only [Act.put, List.setIfInBounds_toArray, List.set_cons_zero, List.set_cons_succ, i64_w, i32_w]
                  rfl
                refine pure_ (i := 17) (N := some 101) (v := ?_) (a' := ?_) #[true, true, true, true, true, true, true, true, true, true, true, true, true, true, true, true, true, true, false, false] rfl rfl (any_of HT_.out (by kernel_rfl)) (fun _ _ _ h => h) (Or.inl ⟨by rfl, ?_⟩) ?_ ?_
                rotate_left
                · intro w'
                  go_simp
                  with_reducible rfl
                rotate_left
                · simp only [Act.put, List.setIfInBounds_toArray, List.set_cons_zero, List.set_cons_succ, i64_w, i32_w]
                  rfl
                refine pure_ (i := 18) (N := some 102) (v := ?_) (a' := ?_) #[true, true, true, true, true, true, true, true, true, true, true, true, true, true, true, true, true, true, true, false] rfl rfl (any_of HT_.out (by kernel_rfl)) (fun _ _ _ h => h) (Or.inl ⟨by rfl, ?_⟩) ?_ ?_
                rotate_left
                · intro w'
                  go_simp
                  with_reducible rfl
                rotate_left
                · simp only [Act.put, List.setIfInBounds_toArray, List.set_cons_zero, List.set_cons_succ, i64_w, i32_w]
                  rfl
                refine one_ (i := 19) (N := none) #[true, true, true, true, true, true, true, true, true, true, true, true, true, true, true, true, true, true, true, true] rfl rfl (one_of HT_.out (by kernel_rfl)) (by decide) (fun K hK => ?_)
                have hcc := F0.box.c4
                have hfr := F0.box.fr 4
                refine skip_ (w1 := ?_) (by rfl) rfl ?_ ?_
                rotate_left
                · go_simp
                  rfl
                refine hK.out _ _ trivial (fun _ => ?_)
                clear hK K hcc hfr
                have nF := F0.set hMBw 4 (.slice (some ⟨g10, 0, none⟩) n n) (F0.box.set4 _)
                obtain ⟨wq30, hw⟩ : ∃ w, w = wq29.setCell ⟨B, 4, none⟩ (.slice (some ⟨g10, 0, none⟩) n n) := ⟨_, rfl⟩
                rw [← hw] at nF
                rw [← hw]
                clear hw F0
                have F0 := nF
                clear nF
                have hc := HCONT (g5, g8, g10) wq30 F0
                simp only [putAll, Act.put, List.setIfInBounds_toArray, List.set_cons_zero, List.set_cons_succ] at hc
                exact hc
            · skip
              refine value_ (by rfl) rfl (mk_run 32 33 (.tmp 95) (.tmp 95) rfl n (by first | rfl | exact congrArg (Value.int .i64) en) (by first | rfl | exact congrArg (Value.int .i64) en) Try.underlying32 (.slice none 0 0) 24 info33 rfl hnb (by decide)) ?_
              refine hK.out _ _ trivial (fun _ => ?_)
              clear hK K
              have nF := F0.list HMW.out
              obtain ⟨g10, hg⟩ : ∃ g, g = wq23.heap.size := ⟨_, rfl⟩
              obtain ⟨wq31, hw⟩ : ∃ w, w = wq23.alloc (.cells (Array.replicate n (.slice none 0 0)) 33) := ⟨_, rfl⟩
              rw [← hg, ← hw] at nF
              rw [← hg, ← hw]
              clear hg hw F0
              have F0 := nF
              clear nF
              refine norm_ (a' := ?_) ?_ ?_
              rotate_left
              · show Act.put _ (some 96) _ = _
                simp only [Act.put, List.setIfInBounds_toArray, List.set_cons_zero, List.set_cons_succ, i64_w, i32_w]
                rfl
              refine one_ (i := 8) (N := some 94) #[true, true, true, true, true, true, true, true, true, true, true, true, true, true, false, false, false, false, false, false] rfl rfl (one_of HT_.out (by kernel_rfl)) (by decide) (fun K hK => ?_)
              refine value_ (by rfl) rfl (mk_run 33 3 (.tmp 93) (.tmp 93) rfl N1 (by first | rfl | exact congrArg (Value.int .i64) en) (by first | rfl | exact congrArg (Value.int .i64) en) Try.underlying33 (.int .i64 0) 8 info3 rfl hN1b (by decide)) ?_
              refine hK.out _ _ trivial (fun _ => ?_)
              clear hK K
              have nF := F0.high HMW.out
              obtain ⟨g8, hg⟩ : ∃ g, g = wq31.heap.size := ⟨_, rfl⟩
              obtain ⟨wq32, hw⟩ : ∃ w, w = wq31.alloc (.cells (Array.replicate N1 (.int .i64 0)) 3) := ⟨_, rfl⟩
              rw [← hg, ← hw] at nF
              rw [← hg, ← hw]
              clear hg hw F0
              have F0 := nF
              clear nF
              refine norm_ (a' := ?_) ?_ ?_
              rotate_left
              · show Act.put _ (some 94) _ = _
                simp only [Act.put, List.setIfInBounds_toArray, List.set_cons_zero, List.set_cons_succ, i64_w, i32_w]
                rfl
              refine pure_ (i := 14) (N := some 99) (v := ?_) (a' := ?_) #[true, true, true, true, true, true, true, true, true, true, true, true, true, true, true, false, false, false, false, false] rfl rfl (any_of HT_.out (by kernel_rfl)) (fun _ _ _ h => h) (Or.inl ⟨by rfl, ?_⟩) ?_ ?_
              rotate_left
              · intro w'
                go_simp
                with_reducible rfl
              rotate_left
              · simp only [Act.put, List.setIfInBounds_toArray, List.set_cons_zero, List.set_cons_succ, i64_w, i32_w]
                rfl
              refine pure_ (i := 15) (N := some 100) (v := ?_) (a' := ?_) #[true, true, true, true, true, true, true, true, true, true, true, true, true, true, true, true, false, false, false, false] rfl rfl (any_of HT_.out (by kernel_rfl)) (fun _ _ _ h => h) (Or.inl ⟨by rfl, ?_⟩) ?_ ?_
              rotate_left
              · intro w'
                go_simp
                with_reducible rfl
              rotate_left
              · simp only [Act.put, List.setIfInBounds_toArray, List.set_cons_zero, List.set_cons_succ, i64_w, i32_w]
                rfl
              refine one_ (i := 16) (N := none) #[true, true, true, true, true, true, true, true, true, true, true, true, true, true, true, true, true, false, false, false] rfl rfl (one_of HT_.out (by kernel_rfl)) (by decide) (fun K hK => ?_)
              have hcc := F0.box.c3
              have hfr := F0.box.fr 3
              refine skip_ (w1 := ?_) (by rfl) rfl ?_ ?_
              rotate_left
              · go_simp
                rfl
              refine hK.out _ _ trivial (fun _ => ?_)
              clear hK K hcc hfr
              have nF := F0.set hMBw 3 (.slice (some ⟨g8, 0, none⟩) N1 N1) (F0.box.set3 _)
              obtain ⟨wq33, hw⟩ : ∃ w, w = wq32.setCell ⟨B, 3, none⟩ (.slice (some ⟨g8, 0, none⟩) N1 N1) := ⟨_, rfl⟩
              rw [← hw] at nF
              rw [← hw]
              clear hw F0
              have F0 := nF
              clear nF
              refine pure_ (i := 17) (N := some 101) (v := ?_) (a' := ?_) #[true, true, true, true, true, true, true, true, true, true, true, true, true, true, true, true, true, true, false, false] rfl rfl (any_of HT_.out (by kernel_rfl)) (fun _ _ _ h => h) (Or.inl ⟨by rfl, ?_⟩) ?_ ?_
              rotate_left
              · intro w'
                go_simp
                with_reducible rfl
              rotate_left
              · simp only [Act.put, List.setIfInBounds_toArray, List.set_cons_zero, List.set_cons_succ, i64_w, i32_w]
                rfl
              refine pure_ (i := 18) (N := some 102) (v := ?_) (a' := ?_) #[true, true, true, true, true, true, true, true, true, true, true, true, true, true, true, true, true, true, true, false] rfl rfl (any_of HT_.out (by kernel_rfl)) (fun _ _ _ h => h) (Or.inl ⟨by rfl, ?_⟩) ?_ ?_
              rotate_left
              · intro w'
                go_simp
                with_reducible rfl
              rotate_left
              · simp only [Act.put, List.setIfInBounds_toArray, List.set_cons_zero, List.set_cons_succ, i64_w, i32_w]
                rfl
              refine one_ (i := 19) (N := none) #[true, true, true, true, true, true, true, true, true, true, true, true, true, true, true, true, true, true, true, true] rfl rfl (one_of HT_.out (by kernel_rfl)) (by decide) (fun K hK => ?_)
              have hcc := F0.box.c4
              have hfr := F0.box.fr 4
              refine skip_ (w1 := ?_) (by rfl) rfl ?_ ?_
              rotate_left
              · go_simp
                rfl
              refine hK.out _ _ trivial (fun _ => ?_)
              clear hK K hcc hfr
              have nF := F0.set hMBw 4 (.slice (some ⟨g10, 0, none⟩) n n) (F0.box.set4 _)
              obtain ⟨wq34, hw⟩ : ∃ w, w = wq33.setCell ⟨B, 4, none⟩ (.slice (some ⟨g10, 0, none⟩) n n) := ⟨_, rfl⟩
              rw [← hw] at nF
              rw [← hw]
              clear hw F0
              have F0 := nF
              clear nF
              have hc := HCONT (g5, g8, g10) wq34 F0
              simp only [putAll, Act.put, List.setIfInBounds_toArray, List.set_cons_zero, List.set_cons_succ] at hc
              exact hc
        · skip
          refine value_ (by rfl) rfl (mk_run 33 3 (.tmp 93) (.tmp 93) rfl N1 (by first | rfl | exact congrArg (Value.int .i64) en) (by first | rfl | exact congrArg (Value.int .i64) en) Try.underlying33 (.int .i64 0) 8 info3 rfl hN1b (by decide)) ?_
          refine hK.out _ _ trivial (fun _ => ?_)
          clear hK K
          have nF := F0.high HMW.out
          obtain ⟨g8, hg⟩ : ∃ g, g = wq0.heap.size := ⟨_, rfl⟩
          obtain ⟨wq35, hw⟩ : ∃ w, w = wq0.alloc (.cells (Array.replicate N1 (.int .i64 0)) 3) := ⟨_, rfl⟩
          rw [← hg, ← hw] at nF
          rw [← hg, ← hw]
          clear hg hw F0
          have F0 := nF
          clear nF
          refine norm_ (a' := ?_) ?_ ?_
          rotate_left
          · show Act.put _ (some 94) _ = _
            simp only [Act.put, List.setIfInBounds_toArray, List.set_cons_zero, List.set_cons_succ, i64_w, i32_w]
            rfl
          refine two_ (i := 5) (Ni := some 91) (j := 10) (Nj := some 96) #[true, true, true, true, true, true, true, true, true, true, false, false, false, false, false, false, false, false, false, false] #[true, true, true, true, true, false, true, true, true, true, true, false, false, false, false, false, false, false, false, false] rfl rfl rfl rfl (two_of HT_.out (by kernel_rfl)) (by decide) (by decide) (fun K hK => ?_) (fun K hK => ?_)
          · skip
            refine value_ (by rfl) rfl (mk_run 33 3 (.tmp 90) (.tmp 90) rfl N1 (by first | rfl | exact congrArg (Value.int .i64) en) (by first | rfl | exact congrArg (Value.int .i64) en) Try.underlying33 (.int .i64 0) 8 info3 rfl hN1b (by decide)) ?_
            refine hK.out _ _ trivial (fun _ => ?_)
            clear hK K
            have nF := F0.low HMW.out
            obtain ⟨g5, hg⟩ : ∃ g, g = wq35.heap.size := ⟨_, rfl⟩
            obtain ⟨wq36, hw⟩ : ∃ w, w = wq35.alloc (.cells (Array.replicate N1 (.int .i64 0)) 3) := ⟨_, rfl⟩
            rw [← hg, ← hw] at nF
            rw [← hg, ← hw]
            clear hg hw F0
            have F0 := nF
            clear nF
            refine norm_ (a' := ?_) ?_ ?_
            rotate_left
            · show Act.put _ (some 91) _ = _
              simp only [Act.put, List.setIfInBounds_toArray, List.set_cons_zero, List.set_cons_succ, i64_w, i32_w]
              rfl
            refine pure_ (i := 11) (N := some 97) (v := ?_) (a' := ?_) #[true, true, true, true, true, true, true, true, true, true, false, true, false, false, false, false, false, false, false, false] rfl rfl (any_of HT_.out (by kernel_rfl)) (fun _ _ _ h => h) (Or.inl ⟨by rfl, ?_⟩) ?_ ?_
            rotate_left
            · intro w'
              go_simp
              with_reducible rfl
            rotate_left
            · simp only [Act.put, List.setIfInBounds_toArray, List.set_cons_zero, List.set_cons_succ, i64_w, i32_w]
              rfl
            refine pure_ (i := 12) (N := some 98) (v := ?_) (a' := ?_) #[true, true, true, true, true, true, true, true, true, true, false, true, true, false, false, false, false, false, false, false] rfl rfl (any_of HT_.out (by kernel_rfl)) (fun _ _ _ h => h) (Or.inl ⟨by rfl, ?_⟩) ?_ ?_
            rotate_left
            · intro w'
              go_simp
              with_reducible rfl
            rotate_left
            · simp only [Act.put, List.setIfInBounds_toArray, List.set_cons_zero, List.set_cons_succ, i64_w, i32_w]
              rfl
            refine two_ (i := 10) (Ni := some 96) (j := 13) (Nj := none) #[true, true, true, true, true, true, true, true, true, true, true, true, true, false, false, false, false, false, false, false] #[true, true, true, true, true, true, true, true, true, true, false, true, true, true, false, false, false, false, false, false] rfl rfl rfl rfl (two_of HT_.out (by kernel_rfl)) (by decide) (by decide) (fun K hK => ?_) (fun K hK => ?_)
            · skip
              refine value_ (by rfl) rfl (mk_run 32 33 (.tmp 95) (.tmp 95) rfl n (by first | rfl | exact congrArg (Value.int .i64) en) (by first | rfl | exact congrArg (Value.int .i64) en) Try.underlying32 (.slice none 0 0) 24 info33 rfl hnb (by decide)) ?_
              refine hK.out _ _ trivial (fun _ => ?_)
              clear hK K
              have nF := F0.list HMW.out
              obtain ⟨g10, hg⟩ : ∃ g, g = wq36.heap.size := ⟨_, rfl⟩
              obtain ⟨wq37, hw⟩ : ∃ w, w = wq36.alloc (.cells (Array.replicate n (.slice none 0 0)) 33) := ⟨_, rfl⟩
              rw [← hg, ← hw] at nF
              rw [← hg, ← hw]
              clear hg hw F0
              have F0 := nF
              clear nF
              refine norm_ (a' := ?_) ?_ ?_
              rotate_left
              · show Act.put _ (some 96) _ = _
                simp only [Act.put, List.setIfInBounds_toArray, List.set_cons_zero, List.set_cons_succ, i64_w, i32_w]
                rfl
              refine one_ (i := 13) (N := none) #[true, true, true, true, true, true, true, true, true, true, true, true, true, true, false, false, false, false, false, false] rfl rfl (one_of HT_.out (by kernel_rfl)) (by decide) (fun K hK => ?_)
              have hcc := F0.box.c2
              have hfr := F0.box.fr 2
              refine skip_ (w1 := ?_) (by rfl) rfl ?_ ?_
              rotate_left
              · go_simp
                rfl
              refine hK.out _ _ trivial (fun _ => ?_)
              clear hK K hcc hfr
              have nF := F0.set hMBw 2 (.slice (some ⟨g5, 0, none⟩) N1 N1) (F0.box.set2 _)
              obtain ⟨wq38, hw⟩ : ∃ w, w = wq37.setCell ⟨B, 2, none⟩ (.slice (some ⟨g5, 0, none⟩) N1 N1) := ⟨_, rfl⟩
              rw [← hw] at nF
              rw [← hw]
              clear hw F0
              have F0 := nF
              clear nF
              refine pure_ (i := 14) (N := some 99) (v := ?_) (a' := ?_) #[true, true, true, true, true, true, true, true, true, true, true, true, true, true, true, false, false, false, false, false] rfl rfl (any_of HT_.out (by kernel_rfl)) (fun _ _ _ h => h) (Or.inl ⟨by rfl, ?_⟩) ?_ ?_
              rotate_left
              · intro w'
                go_simp
                with_reducible rfl
              rotate_left
              · simp only [Act.put, List.setIfInBounds_toArray, List.set_cons_zero, List.set_cons_succ, i64_w, i32_w]
                rfl
              refine pure_ (i := 15) (N := some 100) (v := ?_) (a' := ?_) #[true, true, true, true, true, true, true, true, true, true, true, true, true, true, true, true, false, false, false, false] rfl rfl (any_of HT_.out (by kernel_rfl)) (fun _ _ _ h => h) (Or.inl ⟨by rfl, ?_⟩) ?_ ?_
              rotate_left
              · intro w'
                go_simp
                with_reducible rfl
              rotate_left
              · simp only [Act.put, List.setIfInBounds_toArray, List.set_cons_zero, List.set_cons_succ, i64_w, i32_w]
                rfl
              refine one_ (i := 16) (N := none) #[true, true, true, true, true, true, true, true, true, true, true, true, true, true, true, true, true, false, false, false] rfl rfl (one_of HT_.out (by kernel_rfl)) (by decide) (fun K hK => ?_)
              have hcc := F0.box.c3
              have hfr := F0.box.fr 3
              refine skip_ (w1 := ?_) (by rfl) rfl ?_ ?_
              rotate_left
              · go_simp
                rfl
              refine hK.out _ _ trivial (fun _ => ?_)
              clear hK K hcc hfr
              have nF := F0.set hMBw 3 (.slice (some ⟨g8, 0, none⟩) N1 N1) (F0.box.set3 _)
              obtain ⟨wq39, hw⟩ : ∃ w, w = wq38.setCell ⟨B, 3, none⟩ (.slice (some ⟨g8, 0, none⟩) N1 N1) := ⟨_, rfl⟩
              rw [← hw] at nF
              rw [← hw]
              clear hw F0
              have F0 := nF
              clear nF
              refine pure_ (i := 17) (N := some 101) (v := ?_) (a' := ?_) #[true, true, true, true, true, true, true, true, true, true, true, true, true, true, true, true, true, true, false, false] rfl rfl (any_of HT_.out (by kernel_rfl)) (fun _ _ _ h => h) (Or.inl ⟨by rfl, ?_⟩) ?_ ?_
              rotate_left
              · intro w'
                go_simp
                with_reducible rfl
              rotate_left
              · simp only [Act.put, List.setIfInBounds_toArray, List.set_cons_zero, List.set_cons_succ, i64_w, i32_w]
                rfl
              refine pure_ (i := 18) (N := some 102) (v := ?_) (a' := ?_) #[true, true, true, true, true, true, true, true, true, true, true, true, true, true, true, true, true, true, true, false] rfl rfl (any_of HT_.out (by kernel_rfl)) (fun _ _ _ h => h) (Or.inl ⟨by rfl, ?_⟩) ?_ ?_
              rotate_left
              · intro w'
                go_simp
                with_reducible rfl
              rotate_left
              · simp only [Act.put, List.setIfInBounds_toArray, List.set_cons_zero, List.set_cons_succ, i64_w, i32_w]
                rfl
              refine one_ (i := 19) (N := none) #[true, true, true, true, true, true, true, true, true, true, true, true, true, true, true, true, true, true, true, true] rfl rfl (one_of HT_.out (by kernel_rfl)) (by decide) (fun K hK => ?_)
              have hcc := F0.box.c4
              have hfr := F0.box.fr 4
              refine skip_ (w1 := ?_) (by rfl) rfl ?_ ?_
              rotate_left
              · go_simp
                rfl
              refine hK.out _ _ trivial (fun _ => ?_)
              clear hK K hcc hfr
              have nF := F0.set hMBw 4 (.slice (some ⟨g10, 0, none⟩) n n) (F0.box.set4 _)
              obtain ⟨wq40, hw⟩ : ∃ w, w = wq39.setCell ⟨B, 4, none⟩ (.slice (some ⟨g10, 0, none⟩) n n) := ⟨_, rfl⟩
              rw [← hw] at nF
              rw [← hw]
              clear hw F0
              have F0 := nF
              clear nF
              have hc := HCONT (g5, g8, g10) wq40 F0
              simp only [putAll, Act.put, List.setIfInBounds_toArray, List.set_cons_zero, List.set_cons_succ] at hc
              exact hc
            · skip
              have hcc := F0.box.c2
              have hfr := F0.box.fr 2
              refine skip_ (w1 := ?_) (by rfl) rfl ?_ ?_
              rotate_left
              · go_simp
                rfl
              refine hK.out _ _ trivial (fun _ => ?_)
              clear hK K hcc hfr
              have nF := F0.set hMBw 2 (.slice (some ⟨g5, 0, none⟩) N1 N1) (F0.box.set2 _)
              obtain ⟨wq41, hw⟩ : ∃ w, w = wq36.setCell ⟨B, 2, none⟩ (.slice (some ⟨g5, 0, none⟩) N1 N1) := ⟨_, rfl⟩
              rw [← hw] at nF
              rw [← hw]
              clear hw F0
              have F0 := nF
              clear nF
              refine pure_ (i := 14) (N := some 99) (v := ?_) (a' := ?_) #[true, true, true, true, true, true, true, true, true, true, false, true, true, true, true, false, false, false, false, false] rfl rfl (any_of HT_.out (by kernel_rfl)) (fun _ _ _ h => h) (Or.inl ⟨by rfl, ?_⟩) ?_ ?_
              rotate_left
              · intro w'
                go_simp
                with_reducible rfl
              rotate_left
              · simp only [Act.put, List.setIfInBounds_toArray, List.set_cons_zero, List.set_cons_succ, i64_w, i32_w]
                rfl
              refine pure_ (i := 15) (N := some 100) (v := ?_) (a' := ?_) #[true, true, true, true, true, true, true, true, true, true, false, true, true, true, true, true, false, false, false, false] rfl rfl (any_of HT_.out (by kernel_rfl)) (fun _ _ _ h => h) (Or.inl ⟨by rfl, ?_⟩) ?_ ?_
              rotate_left
              · intro w'
                go_simp
                with_reducible rfl
              rotate_left
              · simp only [Act.put, List.setIfInBounds_toArray, List.set_cons_zero, List.set_cons_succ, i64_w, i32_w]
                rfl
              refine two_ (i := 10) (Ni := some 96) (j := 16) (Nj := none) #[true, true, true, true, true, true, true, true, true, true, true, true, true, true, true, true, false, false, false, false] #[true, true, true, true, true, true, true, true, true, true, false, true, true, true, true, true, true, false, false, false] rfl rfl rfl rfl (two_of HT_.out (by kernel_rfl)) (by decide) (by decide) (fun K hK => ?_) (fun K hK => ?_)
              · skip
                refine value_ (by rfl) rfl (mk_run 32 33 (.tmp 95) (.tmp 95) rfl n (by first | rfl | exact congrArg (Value.int .i64) en) (by first | rfl | exact congrArg (Value.int .i64) en) Try.underlying32 (.slice none 0 0) 24 info33 rfl hnb (by decide)) ?_
                refine hK.out _ _ trivial (fun _ => ?_)
                clear hK K
                have nF := F0.list HMW.out
                obtain ⟨g10, hg⟩ : ∃ g, g = wq41.heap.size := ⟨_, rfl⟩
                obtain ⟨wq42, hw⟩ : ∃ w, w = wq41.alloc (.cells (Array.replicate n (.slice none 0 0)) 33) := ⟨_, rfl⟩
                rw [← hg, ← hw] at nF
                rw [← hg, ← hw]
                clear hg hw F0
                have F0 := nF
                clear nF
                refine norm_ (a' := ?_) ?_ ?_
                rotate_left
                · show Act.put _ (some 96) _ = _
                  simp only [Act.put, List.setIfInBounds_toArray, List.set_cons_zero, List.set_cons_succ, i64_w, i32_w]
                  rfl
                refine one_ (i := 16) (N := none) #[true, true, true, true, true, true, true, true, true, true, true, true, true, true, true, true, true, false, false, false] rfl rfl (one_of HT_.out (by kernel_rfl)) (by decide) (fun K hK => ?_)
                have hcc := F0.box.c3
                have hfr := F0.box.fr 3
                refine skip_ (w1 := ?_) (by rfl) rfl ?_ ?_
                rotate_left
                · go_simp
                  rfl
                refine hK.out _ _ trivial (fun _ => ?_)
                clear hK K hcc hfr
                have nF := F0.set hMBw 3 (.slice (some ⟨g8, 0, none⟩) N1 N1) (F0.box.set3 _)
                obtain ⟨wq43, hw⟩ : ∃ w, w = wq42.setCell ⟨B, 3, none⟩ (.slice (some ⟨g8, 0, none⟩) N1 N1) := ⟨_, rfl⟩
                rw [← hw] at nF
                rw [← hw]
                clear hw F0
                have F0 := nF
                clear nF
                refine pure_ (i := 17) (N := some 101) (v := ?_) (a' := ?_) #[true, true, true, true, true, true, true, true, true, true, true, true, true, true, true, true, true, true, false, false] rfl rfl (any_of HT_.out (by kernel_rfl)) (fun _ _ _ h => h) (Or.inl ⟨by rfl, ?_⟩) ?_ ?_
                rotate_left
                · intro w'
                  go_simp
                  with_reducible rfl
                rotate_left
                · simp only [Act.put, List.setIfInBounds_toArray, List.set_cons_zero, List.set_cons_succ, i64_w, i32_w]
                  rfl
                refine pure_ (i := 18) (N := some 102) (v := ?_) (a' := ?_) #[true, true, true, true, true, true, true, true, true, true, true, true, true, true, true, true, true, true, true, false] rfl rfl (any_of HT_.out (by kernel_rfl)) (fun _ _ _ h => h) (Or.inl ⟨by rfl, ?_⟩) ?_ ?_
                rotate_left
                · intro w'
                  go_simp
                  with_reducible rfl
                rotate_left
                · simp only [Act.put, List.setIfInBounds_toArray, List.set_cons_zero, List.set_cons_succ, i64_w, i32_w]
                  rfl
                refine one_ (i := 19) (N := none) #[true, true, true, true, true, true, true, true, true, true, true, true, true, true, true, true, true, true, true, true] rfl rfl (one_of HT_.out (by kernel_rfl)) (by decide) (fun K hK => ?_)
                have hcc := F0.box.c4
                have hfr := F0.box.fr 4
                refine skip_ (w1 := ?_) (by rfl) rfl ?_ ?_
                rotate_left
                · go_simp
                  rfl
                refine hK.out _ _ trivial (fun _ => ?_)
                clear hK K hcc hfr
                have nF := F0.set hMBw 4 (.slice (some ⟨g10, 0, none⟩) n n) (F0.box.set4 _)
                obtain ⟨wq44, hw⟩ : ∃ w, w = wq43.setCell ⟨B, 4, none⟩ (.slice (some ⟨g10, 0, none⟩) n n) := ⟨_, rfl⟩
                rw [← hw] at nF
                rw [← hw]
                clear hw F0
                have F0 := nF
                clear nF
                have hc := HCONT (g5, g8, g10) wq44 F0
                simp only [putAll, Act.put, List.setIfInBounds_toArray, List.set_cons_zero, List.set_cons_succ] at hc
                exact hc
              · skip
                have hcc := F0.box.c3
                have hfr := F0.box.fr 3
                refine skip_ (w1 := ?_) (by rfl) rfl ?_ ?_
                rotate_left
                · go_simp
                  rfl
                refine hK.out _ _ trivial (fun _ => ?_)
                clear hK K hcc hfr
                have nF := F0.set hMBw 3 (.slice (some ⟨g8, 0, none⟩) N1 N1) (F0.box.set3 _)
                obtain ⟨wq45, hw⟩ : ∃ w, w = wq41.setCell ⟨B, 3, none⟩ (.slice (some ⟨g8, 0, none⟩) N1 N1) := ⟨_, rfl⟩
                rw [← hw] at nF
                rw [← hw]
                clear hw F0
                have F0 := nF
                clear nF
                refine one_ (i := 10) (N := some 96) #[true, true, true, true, true, true, true, true, true, true, true, true, true, true, true, true, true, false, false, false] rfl rfl (one_of HT_.out (by kernel_rfl)) (by decide) (fun K hK => ?_)
                refine value_ (by rfl) rfl (mk_run 32 33 (.tmp 95) (.tmp 95) rfl n (by first | rfl | exact congrArg (Value.int .i64) en) (by first | rfl | exact congrArg (Value.int .i64) en) Try.underlying32 (.slice none 0 0) 24 info33 rfl hnb (by decide)) ?_
                refine hK.out _ _ trivial (fun _ => ?_)
                clear hK K
                have nF := F0.list HMW.out
                obtain ⟨g10, hg⟩ : ∃ g, g = wq45.heap.size := ⟨_, rfl⟩
                obtain ⟨wq46, hw⟩ : ∃ w, w = wq45.alloc (.cells (Array.replicate n (.slice none 0 0)) 33) := ⟨_, rfl⟩
                rw [← hg, ← hw] at nF
                rw [← hg, ← hw]
                clear hg hw F0
                have F0 := nF
                clear nF
                refine norm_ (a' := ?_) ?_ ?_
                rotate_left
                · show Act.put _ (some 96) _ = _
                  simp only [Act.put, List.setIfInBounds_toArray, List.set_cons_zero, List.set_cons_succ, i64_w, i32_w]
                  rfl
                refine pure_ (i := 17) (N := some 101) (v := ?_) (a' := ?_) #[true, true, true, true, true, true, true, true, true, true, true, true, true, true, true, true, true, true, false, false] rfl rfl (any_of HT_.out (by kernel_rfl)) (fun _ _ _ h => h) (Or.inl ⟨by rfl, ?_⟩) ?_ ?_
                rotate_left
                · intro w'
                  go_simp
                  with_reducible rfl
                rotate_left
                · simp only [Act.put, List.setIfInBounds_toArray, List.set_cons_zero, List.set_cons_succ, i64_w, i32_w]
                  rfl
                refine pure_ (i := 18) (N := some 102) (v := ?_) (a' := ?_) #[true, true, true, true, true, true, true, true, true, true, true, true, true, true, true, true, true, true, true, false] rfl rfl (any_of HT_.out (by kernel_rfl)) (fun _ _ _ h => h) (Or.inl ⟨by rfl, ?_⟩) ?_ ?_
                rotate_left
                · intro w'
                  go_simp
                  with_reducible rfl
                rotate_left
                · simp only [Act.put, List.setIfInBounds_toArray, List.set_cons_zero, List.set_cons_succ, i64_w, i32_w]
                  rfl
                refine one_ (i := 19) (N := none) #[true, true, true, true, true, true, true, true, true, true, true, true, true, true, true, true, true, true, true, true] rfl rfl (one_of HT_.out (by kernel_rfl)) (by decide) (fun K hK => ?_)
                have hcc := F0.box.c4
                have hfr := F0.box.fr 4
                refine skip_ (w1 := ?_) (by rfl) rfl ?_ ?_
                rotate_left
                · go_simp
                  rfl
                refine hK.out _ _ trivial (fun _ => ?_)
                clear hK K hcc hfr
                have nF := F0.set hMBw 4 (.slice (some ⟨g10, 0, none⟩) n n) (F0.box.set4 _)
                obtain ⟨wq47, hw⟩ : ∃ w, w = wq46.setCell ⟨B, 4, none⟩ (.slice (some ⟨g10, 0, none⟩) n n) := ⟨_, rfl⟩
                rw [← hw] at nF
                rw [← hw]
                clear hw F0
                have F0 := nF
                clear nF
                have hc := HCONT (g5, g8, g10) wq47 F0
                simp only [putAll, Act.put, List.setIfInBounds_toArray, List.set_cons_zero, List.set_cons_succ] at hc
                exact hc
          · skip
            refine value_ (by rfl) rfl (mk_run 32 33 (.tmp 95) (.tmp 95) rfl n (by first | rfl | exact congrArg (Value.int .i64) en) (by first | rfl | exact congrArg (Value.int .i64) en) Try.underlying32 (.slice none 0 0) 24 info33 rfl hnb (by decide)) ?_
            refine hK.out _ _ trivial (fun _ => ?_)
            clear hK K
            have nF := F0.list HMW.out
            obtain ⟨g10, hg⟩ : ∃ g, g = wq35.heap.size := ⟨_, rfl⟩
            obtain ⟨wq48, hw⟩ : ∃ w, w = wq35.alloc (.cells (Array.replicate n (.slice none 0 0)) 33) := ⟨_, rfl⟩
            rw [← hg, ← hw] at nF
            rw [← hg, ← hw]
            clear hg hw F0
            have F0 := nF
            clear nF
            refine norm_ (a' := ?_) ?_ ?_
            rotate_left
            · show Act.put _ (some 96) _ = _
              simp only [Act.put, List.setIfInBounds_toArray, List.set_cons_zero, List.set_cons_succ, i64_w, i32_w]
              rfl
            refine one_ (i := 5) (N := some 91) #[true, true, true, true, true, true, true, true, true, true, true, false, false, false, false, false, false, false, false, false] rfl rfl (one_of HT_.out (by kernel_rfl)) (by decide) (fun K hK => ?_)
            refine value_ (by rfl) rfl (mk_run 33 3 (.tmp 90) (.tmp 90) rfl N1 (by first | rfl | exact congrArg (Value.int .i64) en) (by first | rfl | exact congrArg (Value.int .i64) en) Try.underlying33 (.int .i64 0) 8 info3 rfl hN1b (by decide)) ?_
            refine hK.out _ _ trivial (fun _ => ?_)
            clear hK K
            have nF := F0.low HMW.out
            obtain ⟨g5, hg⟩ : ∃ g, g = wq48.heap.size := ⟨_, rfl⟩
            obtain ⟨wq49, hw⟩ : ∃ w, w = wq48.alloc (.cells (Array.replicate N1 (.int .i64 0)) 3) := ⟨_, rfl⟩
            rw [← hg, ← hw] at nF
            rw [← hg, ← hw]
            clear hg hw F0
            have F0 := nF
            clear nF
            refine norm_ (a' := ?_) ?_ ?_
            rotate_left
            · show Act.put _ (some 91) _ = _
              simp only [Act.put, List.setIfInBounds_toArray, List.set_cons_zero, List.set_cons_succ, i64_w, i32_w]
              rfl
            refine pure_ (i := 11) (N := some 97) (v := ?_) (a' := ?_) #[true, true, true, true, true, true, true, true, true, true, true, true, false, false, false, false, false, false, false, false] rfl rfl (any_of HT_.out (by kernel_rfl)) (fun _ _ _ h => h) (Or.inl ⟨by rfl, ?_⟩) ?_ ?_
            rotate_left
            · intro w'
              go_simp
              with_reducible rfl
            rotate_left
            · simp only [Act.put, List.setIfInBounds_toArray, List.set_cons_zero, List.set_cons_succ, i64_w, i32_w]
              rfl
            refine pure_ (i := 12) (N := some 98) (v := ?_) (a' := ?_) #[true, true, true, true, true, true, true, true, true, true, true, true, true, false, false, false, false, false, false, false] rfl rfl (any_of HT_.out (by kernel_rfl)) (fun _ _ _ h => h) (Or.inl ⟨by rfl, ?_⟩) ?_ ?_
            rotate_left
            · intro w'
              go_simp
              with_reducible rfl
            rotate_left
            · simp only [Act.put, List.setIfInBounds_toArray, List.set_cons_zero, List.set_cons_succ, i64_w, i32_w]
              rfl
            refine one_ (i := 13) (N := none) #[true, true, true, true, true, true, true, true, true, true, true, true, true, true, false, false, false, false, false, false] rfl rfl (one_of HT_.out (by kernel_rfl)) (by decide) (fun K hK => ?_)
            have hcc := F0.box.c2
            have hfr := F0.box.fr 2
            refine skip_ (w1 := ?_) (by rfl) rfl ?_ ?_
            rotate_left
            · go_simp
              rfl
            refine hK.out _ _ trivial (fun _ => ?_)
            clear hK K hcc hfr
            have nF := F0.set hMBw 2 (.slice (some ⟨g5, 0, none⟩) N1 N1) (F0.box.set2 _)
            obtain ⟨wq50, hw⟩ : ∃ w, w = wq49.setCell ⟨B, 2, none⟩ (.slice (some ⟨g5, 0, none⟩) N1 N1) := ⟨_, rfl⟩
            rw [← hw] at nF
            rw [← hw]
            clear hw F0
            have F0 := nF
            clear nF
            refine pure_ (i := 14) (N := some 99) (v := ?_) (a' := ?_) #[true, true, true, true, true, true, true, true, true, true, true, true, true, true, true, false, false, false, false, false] rfl rfl (any_of HT_.out (by kernel_rfl)) (fun _ _ _ h => h) (Or.inl ⟨by rfl, ?_⟩) ?_ ?_
            rotate_left
            · intro w'
              go_simp
              with_reducible rfl
            rotate_left
            · simp only [Act.put, List.setIfInBounds_toArray, List.set_cons_zero, List.set_cons_succ, i64_w, i32_w]
              rfl
            refine pure_ (i := 15) (N := some 100) (v := ?_) (a' := ?_) #[true, true, true, true, true, true, true, true, true, true, true, true, true, true, true, true, false, false, false, false] rfl rfl (any_of HT_.out (by kernel_rfl)) (fun _ _ _ h => h) (Or.inl ⟨by rfl, ?_⟩) ?_ ?_
            rotate_left
            · intro w'
              go_simp
              with_reducible rfl
            rotate_left
            · simp only [Act.put, List.setIfInBounds_toArray, List.set_cons_zero, List.set_cons_succ, i64_w, i32_w]
              rfl
            refine one_ (i := 16) (N := none) #[true, true, true, true, true, true, true, true, true, true, true, true, true, true, true, true, true, false, false, false] rfl rfl (one_of HT_.out (by kernel_rfl)) (by decide) (fun K hK => ?_)
            have hcc := F0.box.c3
            have hfr := F0.box.fr 3
            refine skip_ (w1 := ?_) (by rfl) rfl ?_ ?_
            rotate_left
            · go_simp
              rfl
            refine hK.out _ _ trivial (fun _ => ?_)
            clear hK K hcc hfr
            have nF := F0.set hMBw 3 (.slice (some ⟨g8, 0, none⟩) N1 N1) (F0.box.set3 _)
            obtain ⟨wq51, hw⟩ : ∃ w, w = wq50.setCell ⟨B, 3, none⟩ (.slice (some ⟨g8, 0, none⟩) N1 N1) := ⟨_, rfl⟩
            rw [← hw] at nF
            rw [← hw]
            clear hw F0
            have F0 := nF
            clear nF
            refine pure_ (i := 17) (N := some 101) (v := ?_) (a' := ?_) #[true, true, true, true, true, true, true, true, true, true, true, true, true, true, true, true, true, true, false, false] rfl rfl (any_of HT_.out (by kernel_rfl)) (fun _ _ _ h => h) (Or.inl ⟨by rfl, ?_⟩) ?_ ?_
            rotate_left
            · intro w'
              go_simp
              with_reducible rfl
            rotate_left
            · simp only [Act.put, List.setIfInBounds_toArray, List.set_cons_zero, List.set_cons_succ, i64_w, i32_w]
              rfl
            refine pure_ (i := 18) (N := some 102) (v := ?_) (a' := ?_) #[true, true, true, true, true, true, true, true, true, true, true, true, true, true, true, true, true, true, true, false] rfl rfl (any_of HT_.out (by kernel_rfl)) (fun _ _ _ h => h) (Or.inl ⟨by rfl, ?_⟩) ?_ ?_
            rotate_left
            · intro w'
              go_simp
              with_reducible rfl
            rotate_left
            · simp only [Act.put, List.setIfInBounds_toArray, List.set_cons_zero, List.set_cons_succ, i64_w, i32_w]
              rfl
            refine one_ (i := 19) (N := none) #[true, true, true, true, true, true, true, true, true, true, true, true, true, true, true, true, true, true, true, true] rfl rfl (one_of HT_.out (by kernel_rfl)) (by decide) (fun K hK => ?_)
            have hcc := F0.box.c4
            have hfr := F0.box.fr 4
            refine skip_ (w1 := ?_) (by rfl) rfl ?_ ?_
            rotate_left
            · go_simp
              rfl
            refine hK.out _ _ trivial (fun _ => ?_)
            clear hK K hcc hfr
            have nF := F0.set hMBw 4 (.slice (some ⟨g10, 0, none⟩) n n) (F0.box.set4 _)
            obtain ⟨wq52, hw⟩ : ∃ w, w = wq51.setCell ⟨B, 4, none⟩ (.slice (some ⟨g10, 0, none⟩) n n) := ⟨_, rfl⟩
            rw [← hw] at nF
            rw [← hw]
            clear hw F0
            have F0 := nF
            clear nF
            have hc := HCONT (g5, g8, g10) wq52 F0
            simp only [putAll, Act.put, List.setIfInBounds_toArray, List.set_cons_zero, List.set_cons_succ] at hc
            exact hc
        · skip
          refine value_ (by rfl) rfl (mk_run 32 33 (.tmp 95) (.tmp 95) rfl n (by first | rfl | exact congrArg (Value.int .i64) en) (by first | rfl | exact congrArg (Value.int .i64) en) Try.underlying32 (.slice none 0 0) 24 info33 rfl hnb (by decide)) ?_
          refine hK.out _ _ trivial (fun _ => ?_)
          clear hK K
          have nF := F0.list HMW.out
          obtain ⟨g10, hg⟩ : ∃ g, g = wq0.heap.size := ⟨_, rfl⟩
          obtain ⟨wq53, hw⟩ : ∃ w, w = wq0.alloc (.cells (Array.replicate n (.slice none 0 0)) 33) := ⟨_, rfl⟩
          rw [← hg, ← hw] at nF
          rw [← hg, ← hw]
          clear hg hw F0
          have F0 := nF
          clear nF
          refine norm_ (a' := ?_) ?_ ?_
          rotate_left
          · show Act.put _ (some 96) _ = _
            simp only [Act.put, List.setIfInBounds_toArray, List.set_cons_zero, List.set_cons_succ, i64_w, i32_w]
            rfl
          refine two_ (i := 5) (Ni := some 91) (j := 8) (Nj := some 94) #[true, true, true, true, true, true, true, true, false, true, true, false, false, false, false, false, false, false, false, false] #[true, true, true, true, true, false, true, true, true, true, true, false, false, false, false, false, false, false, false, false] rfl rfl rfl rfl (two_of HT_.out (by kernel_rfl)) (by decide) (by decide) (fun K hK => ?_) (fun K hK => ?_)
          · skip
            refine value_ (by rfl) rfl (mk_run 33 3 (.tmp 90) (.tmp 90) rfl N1 (by first | rfl | exact congrArg (Value.int .i64) en) (by first | rfl | exact congrArg (Value.int .i64) en) Try.underlying33 (.int .i64 0) 8 info3 rfl hN1b (by decide)) ?_
            refine hK.out _ _ trivial (fun _ => ?_)
            clear hK K
            have nF := F0.low HMW.out
            obtain ⟨g5, hg⟩ : ∃ g, g = wq53.heap.size := ⟨_, rfl⟩
            obtain ⟨wq54, hw⟩ : ∃ w, w = wq53.alloc (.cells (Array.replicate N1 (.int .i64 0)) 3) := ⟨_, rfl⟩
            rw [← hg, ← hw] at nF
            rw [← hg, ← hw]
            clear hg hw F0
            have F0 := nF
            clear nF
            refine norm_ (a' := ?_) ?_ ?_
            rotate_left
            · show Act.put _ (some 91) _ = _
              simp only [Act.put, List.setIfInBounds_toArray, List.set_cons_zero, List.set_cons_succ, i64_w, i32_w]
              rfl
            refine pure_ (i := 11) (N := some 97) (v := ?_) (a' := ?_) #[true, true, true, true, true, true, true, true, false, true, true, true, false, false, false, false, false, false, false, false] rfl rfl (any_of HT_.out (by kernel_rfl)) (fun _ _ _ h => h) (Or.inl ⟨by rfl, ?_⟩) ?_ ?_
            rotate_left
            · intro w'
              go_simp
              with_reducible rfl
            rotate_left
            · simp only [Act.put, List.setIfInBounds_toArray, List.set_cons_zero, List.set_cons_succ, i64_w, i32_w]
              rfl
            refine pure_ (i := 12) (N := some 98) (v := ?_) (a' := ?_) #[true, true, true, true, true, true, true, true, false, true, true, true, true, false, false, false, false, false, false, false] rfl rfl (any_of HT_.out (by kernel_rfl)) (fun _ _ _ h => h) (Or.inl ⟨by rfl, ?_⟩) ?_ ?_
            rotate_left
            · intro w'
              go_simp
              with_reducible rfl
            rotate_left
            · simp only [Act.put, List.setIfInBounds_toArray, List.set_cons_zero, List.set_cons_succ, i64_w, i32_w]
              rfl
            refine two_ (i := 8) (Ni := some 94) (j := 13) (Nj := none) #[true, true, true, true, true, true, true, true, true, true, true, true, true, false, false, false, false, false, false, false] #[true, true, true, true, true, true, true, true, false, true, true, true, true, true, false, false, false, false, false, false] rfl rfl rfl rfl (two_of HT_.out (by kernel_rfl)) (by decide) (by decide) (fun K hK => ?_) (fun K hK => ?_)
            · skip
              refine value_ (by rfl) rfl (mk_run 33 3 (.tmp 93) (.tmp 93) rfl N1 (by first | rfl | exact congrArg (Value.int .i64) en) (by first | rfl | exact congrArg (Value.int .i64) en) Try.underlying33 (.int .i64 0) 8 info3 rfl hN1b (by decide)) ?_
              refine hK.out _ _ trivial (fun _ => ?_)
              clear hK K
              have nF := F0.high HMW.out
              obtain ⟨g8, hg⟩ : ∃ g, g = wq54.heap.size := ⟨_, rfl⟩
              obtain ⟨wq55, hw⟩ : ∃ w, w = wq54.alloc (.cells (Array.replicate N1 (.int .i64 0)) 3) := ⟨_, rfl⟩
              rw [← hg, ← hw] at nF
              rw [← hg, ← hw]
              clear hg hw F0
              have F0 := nF
              clear nF
              refine norm_ (a' := ?_) ?_ ?_
              rotate_left
              · show Act.put _ (some 94) _ = _
                simp only [Act.put, List.setIfInBounds_toArray, List.set_cons_zero, List.set_cons_succ, i64_w, i32_w]
                rfl
              refine one_ (i := 13) (N := none) #[true, true, true, true, true, true, true, true, true, true, true, true, true, true, false, false, false, false, false, false] rfl rfl (one_of HT_.out (by kernel_rfl)) (by decide) (fun K hK => ?_)
              have hcc := F0.box.c2
              have hfr := F0.box.fr 2
              refine skip_ (w1 := ?_) (by rfl) rfl ?_ ?_
              rotate_left
              · go_simp
                rfl
              refine hK.out _ _ trivial (fun _ => ?_)
              clear hK K hcc hfr
              have nF := F0.set hMBw 2 (.slice (some ⟨g5, 0, none⟩) N1 N1) (F0.box.set2 _)
              obtain ⟨wq56, hw⟩ : ∃ w, w = wq55.setCell ⟨B, 2, none⟩ (.slice (some ⟨g5, 0, none⟩) N1 N1) := ⟨_, rfl⟩
              rw [← hw] at nF
              rw [← hw]
              clear hw F0
              have F0 := nF
              clear nF
              refine pure_ (i := 14) (N := some 99) (v := ?_) (a' := ?_) #[true, true, true, true, true, true, true, true, true, true, true, true, true, true, true, false, false, false, false, false] rfl rfl (any_of HT_.out (by kernel_rfl)) (fun _ _ _ h => h) (Or.inl ⟨by rfl, ?_⟩) ?_ ?_
              rotate_left
              · intro w'
                go_simp
                with_reducible rfl
              rotate_left
              · simp only [Act.put, List.setIfInBounds_toArray, List.set_cons_zero, List.set_cons_succ, i64_w, i32_w]
                rfl
              refine pure_ (i := 15) (N := some 100) (v := ?_) (a' := ?_) #[true, true, true, true, true, true, true, true, true, true, true, true, true, true, true, true, false, false, false, false] rfl rfl (any_of HT_.out (by kernel_rfl)) (fun _ _ _ h => h) (Or.inl ⟨by rfl, ?_⟩) ?_ ?_
              rotate_left
              · intro w'
                go_simp
                with_reducible rfl
              rotate_left
              · simp only [Act.put, List.setIfInBounds_toArray, List.set_cons_zero, List.set_cons_succ, i64_w, i32_w]
                rfl
              refine one_ (i := 16) (N := none) #[true, true, true, true, true, true, true, true, true, true, true, true, true, true, true, true, true, false, false, false] rfl rfl (one_of HT_.out (by kernel_rfl)) (by decide) (fun K hK => ?_)
              have hcc := F0.box.c3
              have hfr := F0.box.fr 3
              refine skip_ (w1 := ?_) (by rfl) rfl ?_ ?_
              rotate_left
              · go_simp
                rfl
              refine hK.out _ _ trivial (fun _ => ?_)
              clear hK K hcc hfr
              have nF := F0.set hMBw 3 (.slice (some ⟨g8, 0, none⟩) N1 N1) (F0.box.set3 _)
              obtain ⟨wq57, hw⟩ : ∃ w, w = wq56.setCell ⟨B, 3, none⟩ (.slice (some ⟨g8, 0, none⟩) N1 N1) := ⟨_, rfl⟩
              rw [← hw] at nF
              rw [← hw]
              clear hw F0
              have F0 := nF
              clear nF
              refine pure_ (i := 17) (N := some 101) (v := ?_) (a' := ?_) #[true, true, true, true, true, true, true, true, true, true, true, true, true, true, true, true, true, true, false, false] rfl rfl (any_of HT_.out (by kernel_rfl)) (fun _ _ _ h => h) (Or.inl ⟨by rfl, ?_⟩) ?_ ?_
              rotate_left
              · intro w'
                go_simp
                with_reducible rfl
              rotate_left
              · simp only [Act.put, List.setIfInBounds_toArray, List.set_cons_zero, List.set_cons_succ, i64_w, i32_w]
                rfl
              refine pure_ (i := 18) (N := some 102) (v := ?_) (a' := ?_) #[true, true, true, true, true, true, true, true, true, true, true, true, true, true, true, true, true, true, true, false] rfl rfl (any_of HT_.out (by kernel_rfl)) (fun _ _ _ h => h) (Or.inl ⟨by rfl, ?_⟩) ?_ ?_
              rotate_left
              · intro w'
                go_simp
                with_reducible rfl
              rotate_left
              · simp only [Act.put, List.setIfInBounds_toArray, List.set_cons_zero, List.set_cons_succ, i64_w, i32_w]
                rfl
              refine one_ (i := 19) (N := none) #[true, true, true, true, true, true, true, true, true, true, true, true, true, true, true, true, true, true, true, true] rfl rfl (one_of HT_.out (by kernel_rfl)) (by decide) (fun K hK => ?_)
              have hcc := F0.box.c4
              have hfr := F0.box.fr 4
              refine skip_ (w1 := ?_) (by rfl) rfl ?_ ?_
              rotate_left
              · go_simp
                rfl
              refine hK.out _ _ trivial (fun _ => ?_)
              clear hK K hcc hfr
              have nF := F0.set hMBw 4 (.slice (some ⟨g10, 0, none⟩) n n) (F0.box.set4 _)
              obtain ⟨wq58, hw⟩ : ∃ w, w = wq57.setCell ⟨B, 4, none⟩ (.slice (some ⟨g10, 0, none⟩) n n) := ⟨_, rfl⟩
              rw [← hw] at nF
              rw [← hw]
              clear hw F0
              have F0 := nF
              clear nF
              have hc := HCONT (g5, g8, g10) wq58 F0
              simp only [putAll, Act.put, List.setIfInBounds_toArray, List.set_cons_zero, List.set_cons_succ] at hc
              exact hc
            · skip
              have hcc := F0.box.c2
              have hfr := F0.box.fr 2
              refine skip_ (w1 := ?_) (by rfl) rfl ?_ ?_
              rotate_left
              · go_simp
                rfl
              refine hK.out _ _ trivial (fun _ => ?_)
              clear hK K hcc hfr
              have nF := F0.set hMBw 2 (.slice (some ⟨g5, 0, none⟩) N1 N1) (F0.box.set2 _)
              obtain ⟨wq59, hw⟩ : ∃ w, w = wq54.setCell ⟨B, 2, none⟩ (.slice (some ⟨g5, 0, none⟩) N1 N1) := ⟨_, rfl⟩
              rw [← hw] at nF
              rw [← hw]
              clear hw F0
              have F0 := nF
              clear nF
              refine one_ (i := 8) (N := some 94) #[true, true, true, true, true, true, true, true, true, true, true, true, true, true, false, false, false, false, false, false] rfl rfl (one_of HT_.out (by kernel_rfl)) (by decide) (fun K hK => ?_)
              refine value_ (by rfl) rfl (mk_run 33 3 (.tmp 93) (.tmp 93) rfl N1 (by first | rfl | exact congrArg (Value.int .i64) en) (by first | rfl | exact congrArg (Value.int .i64) en) Try.underlying33 (.int .i64 0) 8 info3 rfl hN1b (by decide)) ?_
              refine hK.out _ _ trivial (fun _ => ?_)
              clear hK K
              have nF := F0.high HMW.out
              obtain ⟨g8, hg⟩ : ∃ g, g = wq59.heap.size := ⟨_, rfl⟩
              obtain ⟨wq60, hw⟩ : ∃ w, w = wq59.alloc (.cells (Array.replicate N1 (.int .i64 0)) 3) := ⟨_, rfl⟩
              rw [← hg, ← hw] at nF
              rw [← hg, ← hw]
              clear hg hw F0
              have F0 := nF
              clear nF
              refine norm_ (a' := ?_) ?_ ?_
              rotate_left
              · show Act.put _ (some 94) _ = _
                simp only [Act.put, List.setIfInBounds_toArray, List.set_cons_zero, List.set_cons_succ, i64_w, i32_w]
                rfl
              refine pure_ (i := 14) (N := some 99) (v := ?_) (a' := ?_) #[true, true, true, true, true, true, true, true, true, true, true, true, true, true, true, false, false, false, false, false] rfl rfl (any_of HT_.out (by kernel_rfl)) (fun _ _ _ h => h) (Or.inl ⟨by rfl, ?_⟩) ?_ ?_
              rotate_left
              · intro w'
                go_simp
                with_reducible rfl
              rotate_left
              · simp only [Act.put, List.setIfInBounds_toArray, List.set_cons_zero, List.set_cons_succ, i64_w, i32_w]
                rfl
              refine pure_ (i := 15) (N := some 100) (v := ?_) (a' := ?_) #[true, true, true, true, true, true, true, true, true, true, true, true, true, true, true, true, false, false, false, false] rfl rfl (any_of HT_.out (by kernel_rfl)) (fun _ _ _ h => h) (Or.inl ⟨by rfl, ?_⟩) ?_ ?_
              rotate_left
              · intro w'
                go_simp
                with_reducible rfl
              rotate_left
              · simp only [Act.put, List.setIfInBounds_toArray, List.set_cons_zero, List.set_cons_succ, i64_w, i32_w]
                rfl
              refine one_ (i := 16) (N := none) #[true, true, true, true, true, true, true, true, true, true, true, true, true, true, true, true, true, false, false, false] rfl rfl (one_of HT_.out (by kernel_rfl)) (by decide) (fun K hK => ?_)
              have hcc := F0.box.c3
              have hfr := F0.box.fr 3
              refine skip_ (w1 := ?_) (by rfl) rfl ?_ ?_
              rotate_left
              · go_simp
                rfl
              refine hK.out _ _ trivial (fun _ => ?_)
              clear hK K hcc hfr
              have nF := F0.set hMBw 3 (.slice (some ⟨g8, 0, none⟩) N1 N1) (F0.box.set3 _)
              obtain ⟨wq61, hw⟩ : ∃ w, w = wq60.setCell ⟨B, 3, none⟩ (.slice (some ⟨g8, 0, none⟩) N1 N1) := ⟨_, rfl⟩
              rw [← hw] at nF
              rw [← hw]
              clear hw F0
              have F0 := nF
              clear nF
              refine pure_ (i := 17) (N := some 101) (v := ?_) (a' := ?_) #[true, true, true, true, true, true, true, true, true, true, true, true, true, true, true, true, true, true, false, false] rfl rfl (any_of HT_.out (by kernel_rfl)) (fun _ _ _ h => h) (Or.inl ⟨by rfl, ?_⟩) ?_ ?_
              rotate_left
              · intro w'
                go_simp
                with_reducible rfl
              rotate_left
              · simp only [Act.put, List.setIfInBounds_toArray, List.set_cons_zero, List.set_cons_succ, i64_w, i32_w]
                rfl
              refine pure_ (i := 18) (N := some 102) (v := ?_) (a' := ?_) #[true, true, true, true, true, true, true, true, true, true, true, true, true, true, true, true, true, true, true, false] rfl rfl (any_of HT_.out (by kernel_rfl)) (fun _ _ _ h => h) (Or.inl ⟨by rfl, ?_⟩) ?_ ?_
              rotate_left
              · intro w'
                go_simp
                with_reducible rfl
              rotate_left
              · simp only [Act.put, List.setIfInBounds_toArray, List.set_cons_zero, List.set_cons_succ, i64_w, i32_w]
                rfl
              refine one_ (i := 19) (N := none) #[true, true, true, true, true, true, true, true, true, true, true, true, true, true, true, true, true, true, true, true] rfl rfl (one_of HT_.out (by kernel_rfl)) (by decide) (fun K hK => ?_)
              have hcc := F0.box.c4
              have hfr := F0.box.fr 4
              refine skip_ (w1 := ?_) (by rfl) rfl ?_ ?_
              rotate_left
              · go_simp
                rfl
              refine hK.out _ _ trivial (fun _ => ?_)
              clear hK K hcc hfr
              have nF := F0.set hMBw 4 (.slice (some ⟨g10, 0, none⟩) n n) (F0.box.set4 _)
              obtain ⟨wq62, hw⟩ : ∃ w, w = wq61.setCell ⟨B, 4, none⟩ (.slice (some ⟨g10, 0, none⟩) n n) := ⟨_, rfl⟩
              rw [← hw] at nF
              rw [← hw]
              clear hw F0
              have F0 := nF
              clear nF
              have hc := HCONT (g5, g8, g10) wq62 F0
              simp only [putAll, Act.put, List.setIfInBounds_toArray, List.set_cons_zero, List.set_cons_succ] at hc
              exact hc
          · skip
            refine value_ (by rfl) rfl (mk_run 33 3 (.tmp 93) (.tmp 93) rfl N1 (by first | rfl | exact congrArg (Value.int .i64) en) (by first | rfl | exact congrArg (Value.int .i64) en) Try.underlying33 (.int .i64 0) 8 info3 rfl hN1b (by decide)) ?_
            refine hK.out _ _ trivial (fun _ => ?_)
            clear hK K
            have nF := F0.high HMW.out
            obtain ⟨g8, hg⟩ : ∃ g, g = wq53.heap.size := ⟨_, rfl⟩
            obtain ⟨wq63, hw⟩ : ∃ w, w = wq53.alloc (.cells (Array.replicate N1 (.int .i64 0)) 3) := ⟨_, rfl⟩
            rw [← hg, ← hw] at nF
            rw [← hg, ← hw]
            clear hg hw F0
            have F0 := nF
            clear nF
            refine norm_ (a' := ?_) ?_ ?_
            rotate_left
            · show Act.put _ (some 94) _ = _
              simp only [Act.put, List.setIfInBounds_toArray, List.set_cons_zero, List.set_cons_succ, i64_w, i32_w]
              rfl
            refine one_ (i := 5) (N := some 91) #[true, true, true, true, true, true, true, true, true, true, true, false, false, false, false, false, false, false, false, false] rfl rfl (one_of HT_.out (by kernel_rfl)) (by decide) (fun K hK => ?_)
            refine value_ (by rfl) rfl (mk_run 33 3 (.tmp 90) (.tmp 90) rfl N1 (by first | rfl | exact congrArg (Value.int .i64) en) (by first | rfl | exact congrArg (Value.int .i64) en) Try.underlying33 (.int .i64 0) 8 info3 rfl hN1b (by decide)) ?_
            refine hK.out _ _ trivial (fun _ => ?_)
            clear hK K
            have nF := F0.low HMW.out
            obtain ⟨g5, hg⟩ : ∃ g, g = wq63.heap.size := ⟨_, rfl⟩
            obtain ⟨wq64, hw⟩ : ∃ w, w = wq63.alloc (.cells (Array.replicate N1 (.int .i64 0)) 3) := ⟨_, rfl⟩
            rw [← hg, ← hw] at nF
            rw [← hg, ← hw]
            clear hg hw F0
            have F0 := nF
            clear nF
            refine norm_ (a' := ?_) ?_ ?_
            rotate_left
            · show Act.put _ (some 91) _ = _
              simp only [Act.put, List.setIfInBounds_toArray, List.set_cons_zero, List.set_cons_succ, i64_w, i32_w]
              rfl
            refine pure_ (i := 11) (N := some 97) (v := ?_) (a' := ?_) #[true, true, true, true, true, true, true, true, true, true, true, true, false, false, false, false, false, false, false, false] rfl rfl (any_of HT_.out (by kernel_rfl)) (fun _ _ _ h => h) (Or.inl ⟨by rfl, ?_⟩) ?_ ?_
            rotate_left
            · intro w'
              go_simp
              with_reducible rfl
            rotate_left
            · simp only [Act.put, List.setIfInBounds_toArray, List.set_cons_zero, List.set_cons_succ, i64_w, i32_w]
              rfl
            refine pure_ (i := 12) (N := some 98) (v := ?_) (a' := ?_) #[true, true, true, true, true, true, true, true, true, true, true, true, true, false, false, false, false, false, false, false] rfl rfl (any_of HT_.out (by kernel_rfl)) (fun _ _ _ h => h) (Or.inl ⟨by rfl, ?_⟩) ?_ ?_
            rotate_left
            · intro w'
              go_simp
              with_reducible rfl
            rotate_left
            · simp only [Act.put, List.setIfInBounds_toArray, List.set_cons_zero, List.set_cons_succ, i64_w, i32_w]
              rfl
            refine one_ (i := 13) (N := none) #[true, true, true, true, true, true, true, true, true, true, true, true, true, true, false, false, false, false, false, false] rfl rfl (one_of HT_.out (by kernel_rfl)) (by decide) (fun K hK => ?_)
            have hcc := F0.box.c2
            have hfr := F0.box.fr 2
            refine skip_ (w1 := ?_) (by rfl) rfl ?_ ?_
            rotate_left
            · go_simp
              rfl
            refine hK.out _ _ trivial (fun _ => ?_)
            clear hK K hcc hfr
            have nF := F0.set hMBw 2 (.slice (some ⟨g5, 0, none⟩) N1 N1) (F0.box.set2 _)
            obtain ⟨wq65, hw⟩ : ∃ w, w = wq64.setCell ⟨B, 2, none⟩ (.slice (some ⟨g5, 0, none⟩) N1 N1) := ⟨_, rfl⟩
            rw [← hw] at nF
            rw [← hw]
            clear hw F0
            have F0 := nF
            clear nF
            refine pure_ (i := 14) (N := some 99) (v := ?_) (a' := ?_) #[true, true, true, true, true, true, true, true, true, true, true, true, true, true, true, false, false, false, false, false] rfl rfl (any_of HT_.out (by kernel_rfl)) (fun _ _ _ h => h) (Or.inl ⟨by rfl, ?_⟩) ?_ ?_
            rotate_left
            · intro w'
              go_simp
              with_reducible rfl
            rotate_left
            · simp only [Act.put, List.setIfInBounds_toArray, List.set_cons_zero, List.set_cons_succ, i64_w, i32_w]
              rfl
            refine pure_ (i := 15) (N := some 100) (v := ?_) (a' := ?_) #[true, true, true, true, true, true, true, true, true, true, true, true, true, true, true, true, false, false, false, false] rfl rfl (any_of HT_.out (by kernel_rfl)) (fun _ _ _ h => h) (Or.inl ⟨by rfl, ?_⟩) ?_ ?_
            rotate_left
            · intro w'
              go_simp
              with_reducible rfl
            rotate_left
            · simp only [Act.put, List.setIfInBounds_toArray, List.set_cons_zero, List.set_cons_succ, i64_w, i32_w]
              rfl
            refine one_ (i := 16) (N := none) #[true, true, true, true, true, true, true, true, true, true, true, true, true, true, true, true, true, false, false, false] rfl rfl (one_of HT_.out (by kernel_rfl)) (by decide) (fun K hK => ?_)
            have hcc := F0.box.c3
            have hfr := F0.box.fr 3
            refine skip_ (w1 := ?_) (by rfl) rfl ?_ ?_
            rotate_left
            · go_simp
              rfl
            refine hK.out _ _ trivial (fun _ => ?_)
            clear hK K hcc hfr
            have nF := F0.set hMBw 3 (.slice (some ⟨g8, 0, none⟩) N1 N1) (F0.box.set3 _)
            obtain ⟨wq66, hw⟩ : ∃ w, w = wq65.setCell ⟨B, 3, none⟩ (.slice (some ⟨g8, 0, none⟩) N1 N1) := ⟨_, rfl⟩
            rw [← hw] at nF
            rw [← hw]
            clear hw F0
            have F0 := nF
            clear nF
            refine pure_ (i := 17) (N := some 101) (v := ?_) (a' := ?_) #[true, true, true, true, true, true, true, true, true, true, true, true, true, true, true, true, true, true, false, false] rfl rfl (any_of HT_.out (by kernel_rfl)) (fun _ _ _ h => h) (Or.inl ⟨by rfl, ?_⟩) ?_ ?_
            rotate_left
            · intro w'
              go_simp
              with_reducible rfl
            rotate_left
            · simp only [Act.put, List.setIfInBounds_toArray, List.set_cons_zero, List.set_cons_succ, i64_w, i32_w]
              rfl
            refine pure_ (i := 18) (N := some 102) (v := ?_) (a' := ?_) #[true, true, true, true, true, true, true, true, true, true, true, true, true, true, true, true, true, true, true, false] rfl rfl (any_of HT_.out (by kernel_rfl)) (fun _ _ _ h => h) (Or.inl ⟨by rfl, ?_⟩) ?_ ?_
            rotate_left
            · intro w'
              go_simp
              with_reducible rfl
            rotate_left
            · simp only [Act.put, List.setIfInBounds_toArray, List.set_cons_zero, List.set_cons_succ, i64_w, i32_w]
              rfl
            refine one_ (i := 19) (N := none) #[true, true, true, true, true, true, true, true, true, true, true, true, true, true, true, true, true, true, true, true] rfl rfl (one_of HT_.out (by kernel_rfl)) (by decide) (fun K hK => ?_)
            have hcc := F0.box.c4
            have hfr := F0.box.fr 4
            refine skip_ (w1 := ?_) (by rfl) rfl ?_ ?_
            rotate_left
            · go_simp
              rfl
            refine hK.out _ _ trivial (fun _ => ?_)
            clear hK K hcc hfr
            have nF := F0.set hMBw 4 (.slice (some ⟨g10, 0, none⟩) n n) (F0.box.set4 _)
            obtain ⟨wq67, hw⟩ : ∃ w, w = wq66.setCell ⟨B, 4, none⟩ (.slice (some ⟨g10, 0, none⟩) n n) := ⟨_, rfl⟩
            rw [← hw] at nF
            rw [← hw]
            clear hw F0
            have F0 := nF
            clear nF
            have hc := HCONT (g5, g8, g10) wq67 F0
            simp only [putAll, Act.put, List.setIfInBounds_toArray, List.set_cons_zero, List.set_cons_succ] at hc
            exact hc
      case hcont =>
        clear F0
        rintro ⟨gl, gh, L⟩ w5 F5
        refine norm_ (a' := ?_) ?_ ?_
        rotate_left
        · simp only [putAll, Act.put, List.setIfInBounds_toArray, List.set_cons_zero, List.set_cons_succ]
          rfl
        refine done_ (done_of HT_.out (by kernel_rfl)) ?_
        have F6 := F5.start HN1.out HNL.out
        have HF6 := Lib.hid F6
        clear F5 F6 en
        have en1 : wrap64 ((n : Int) - 1) = (n : Int) - 1 := wrap64_of' (by omega) (by omega)
        try go_wp2
        go_loopg [8] n (fun kq v8 wr => ∃ m : Nat, kq = m ∧ m ≤ n ∧ v8 = .int .i64 ((m : Int) - 1) ∧ Aside0 (LpF W M B l rk G c2 sl n N1 gl gh L m m wr))
        case atStart => exact ⟨n, rfl, Nat.le_refl _, rfl, ⟨HF6.out⟩⟩
        case round =>
          clear HF6 en1
          obtain ⟨m, hkm, hmn, rfl, HLP0⟩ := hrel
          have HKM := Lib.hid hkm
          clear hkm
          cases m with
          | succ m =>
            have hmi : (((m + 1 : Nat) : Int) - 1) = (m : Int) := by omega
            rw [hmi]
            clear hmi
            have hml : m < sl.length := by rw [HNL.out]; omega
            obtain ⟨f0, hf0⟩ : ∃ f0 : Int, f0 = sl[m].f0 := ⟨_, rfl⟩
            obtain ⟨f1, hf1⟩ : ∃ f1 : Int, f1 = sl[m].f1 := ⟨_, rfl⟩
            obtain ⟨lo1, hlo1⟩ : ∃ x : Int, x = lowOf (sl.drop (m + 1)) := ⟨_, rfl⟩
            obtain ⟨hi1, hhi1⟩ : ∃ x : Int, x = highOf rk (sl.drop (m + 1)) := ⟨_, rfl⟩
            obtain ⟨lo0, hlo0⟩ : ∃ x : Int, x = lowOf (sl.drop m) := ⟨_, rfl⟩
            obtain ⟨hi0, hhi0⟩ : ∃ x : Int, x = highOf rk (sl.drop m) := ⟨_, rfl⟩
            obtain ⟨k1, hk1⟩ : ∃ x : Int, x = rk + 1 := ⟨_, rfl⟩
            obtain ⟨pm, hpm⟩ : ∃ x : Int, x = f1 * k1 := ⟨_, rfl⟩
            have hsok := slots_ok hvB
            rw [← HSL.out, ← HSLE.out] at hsok
            have hrkb : 0 ≤ rk ∧ rk ≤ 2000 := by rw [HRK.out]; omega
            have hfb := hsok sl[m] (List.getElem_mem hml)
            rw [← hf0, ← hf1] at hfb
            have hlb := lowOf_ok (l := sl.drop (m + 1)) (fun s hs => hsok s (List.mem_of_mem_drop hs))
            have hhb := highOf_ok (l := sl.drop (m + 1)) hrkb.1 hrkb.2 (fun s hs => hsok s (List.mem_of_mem_drop hs))
            have hdl : ((sl.drop (m + 1)).length : Int) ≤ 41 := by rw [List.length_drop, HNL.out]; omega
            rw [← hlo1] at hlb
            rw [← hhi1] at hhb
            have hdc : sl.drop m = sl[m] :: sl.drop (m + 1) := List.drop_eq_getElem_cons hml
            have hl01 : lo0 = lo1 + f0 := by rw [hlo0, hdc, lowOf, hlo1, hf0]
            have hh01 : hi0 = hi1 + pm := by rw [hhi0, hdc, highOf, hhi1, hpm, hf1, hk1]
            have hpmb : 0 ≤ pm ∧ pm ≤ 1000 * 2001 := by
              rw [hpm]
              exact ⟨Int.mul_nonneg hfb.2.2.1 (by omega), Int.mul_le_mul hfb.2.2.2 (by omega) (by omega) (by decide)⟩
            have hN1 := HN1.out
            have p1 : (0 ≤ (m : Int)) = True := eq_true (by omega)
            have p2 : ((m : Int) < (n : Int)) = True := eq_true (by omega)
            have p3 : (m < n) = True := eq_true (by omega)
            have p4 : ((m : Int) < (N1 : Int)) = True := eq_true (by omega)
            have p5 : (m < N1) = True := eq_true (by omega)
            have p6 : ((m : Int) + 1 < (N1 : Int)) = True := eq_true (by omega)
            have p7 : (m + 1 < N1) = True := eq_true (by omega)
            have p8 : (0 ≤ (m : Int) + 1) = True := eq_true (by omega)
            have p9 : ((m : Int) + 1).toNat = m + 1 := by omega
            have d0 : decide (0 ≤ (m : Int)) = true := decide_eq_true (by omega)
            have HFX := Lib.hid (And.intro hf0 hf1)
            have HLO1 := Lib.hid hlo1
            have HHI1 := Lib.hid hhi1
            have HLO0 := Lib.hid hlo0
            have HHI0 := Lib.hid hhi0
            have HML := Lib.hid hml
            have hE : wrap64 ((m : Int) + 1) = (m : Int) + 1 ∧ wrap64 (lo1 + f0) = lo0 ∧ wrap64 (rk + 1) = k1 ∧ wrap64 (f1 * k1) = pm ∧ wrap64 (hi1 + pm) = hi0 ∧ wrap64 ((m : Int) - 1) = (m : Int) - 1 :=
              ⟨wrap64_of' (by omega) (by omega), by rw [wrap64_of' (by omega) (by omega)]; exact hl01.symm, by rw [wrap64_of' (by omega) (by omega)]; exact hk1.symm, by rw [← hpm, wrap64_of' (by omega) (by omega)], by rw [wrap64_of' (by omega) (by omega)]; exact hh01.symm, wrap64_of' (by omega) (by omega)⟩
            have hmn2 : m + 1 ≤ n := hmn
            clear hf0 hf1 hlo1 hhi1 hlo0 hhi0 hk1 hpm hsok hrkb hfb hlb hhb hdl hdc hl01 hh01 hpmb hmn hN1
            obtain ⟨e1, e2, e3, e4, e5, e6⟩ := hE
            go_upto_region 18 with (fail)
            obtain ⟨wd, hwd⟩ : ∃ wd, wd = wr.drew := ⟨_, rfl⟩
            have nLP := HLP0.out.drew
            rw [← hwd] at nLP
            have nS := nLP.sc m HML.out
            rw [← HFX.out.1, ← HFX.out.2] at nS
            have nl := nLP.lc (m + 1) (Nat.le_refl _) hmn2
            rw [← HLO1.out] at nl
            have HLP := Lib.hid nLP
            have HS18 := Lib.hid (And.intro nLP.box.c2 (And.intro nl (And.intro nLP.box.c0 nS.1)))
            clear nLP nS nl HLP0
            refine start_ (n := 24) (S := fun w' => w'.cell? ⟨B, 2, none⟩ = some (.slice (some ⟨gl, 0, none⟩) N1 N1) ∧ w'.cell? ⟨gl, m + 1, none⟩ = some (.int .i64 lo1) ∧ w'.cell? ⟨B, 0, none⟩ = some (.slice (some ⟨G, 0, none⟩) n c2) ∧ w'.cell? ⟨G, m * 2, none⟩ = some (.int .i64 f0)) (ds := [23]) #[false, false, false, false, false, false, false, false, false, false, false, false, false, false, false, false, false, false, false, false, false, false, false, false] (by kernel_rfl) rfl rfl (by rw [← hwd]; exact HS18.out) (fun hHeld => ?_); refine with_tabW tab31_18 bits31_18 (fun HT_ HW_ => ?_)
            rw [← hwd] at hHeld ⊢; clear hwd
            refine pure_ (i := 0) (N := some 109) (v := ?_) (a' := ?_) #[true, false, false, false, false, false, false, false, false, false, false, false, false, false, false, false, false, false, false, false, false, false, false, false] rfl rfl (any_of HT_.out (by kernel_rfl)) (fun _ _ _ h => h) (Or.inl ⟨by rfl, ?_⟩) ?_ ?_
            rotate_left
            · intro w'
              go_simp
              with_reducible rfl
            rotate_left
            · simp only [Act.put, List.setIfInBounds_toArray, List.set_cons_zero, List.set_cons_succ, i64_w, i32_w]
              rfl
            refine pure_ (i := 1) (N := some 110) (v := ?_) (a' := ?_) #[true, true, false, false, false, false, false, false, false, false, false, false, false, false, false, false, false, false, false, false, false, false, false, false] rfl rfl (any_of HT_.out (by kernel_rfl)) (fun _ _ _ h => h) (Or.inl ⟨by rfl, ?_⟩) ?_ ?_
            rotate_left
            · intro w'
              go_simp
              with_reducible rfl
            rotate_left
            · simp only [Act.put, List.setIfInBounds_toArray, List.set_cons_zero, List.set_cons_succ, i64_w, i32_w]
              rfl
            refine pure_ (i := 2) (N := some 111) (v := ?_) (a' := ?_) #[true, true, true, false, false, false, false, false, false, false, false, false, false, false, false, false, false, false, false, false, false, false, false, false] rfl rfl (any_of HT_.out (by kernel_rfl)) (fun _ _ _ h => h) (Or.inl ⟨by rfl, ?_⟩) ?_ ?_
            rotate_left
            · intro w'
              go_simp
              with_reducible rfl
            rotate_left
            · simp only [Act.put, List.setIfInBounds_toArray, List.set_cons_zero, List.set_cons_succ, i64_w, i32_w]
              rfl
            refine take_ (i := 3) (N := some 112) (v := ?_) (a' := ?_) #[true, true, true, true, false, false, false, false, false, false, false, false, false, false, false, false, false, false, false, false, false, false, false, false] rfl rfl (take_ofW HT_.out HW_.out (by kernel_rfl)) (fun _ _ _ h => h) (Or.inl ⟨by rfl, ?_⟩) hHeld ?_ ?_
            rotate_left
            · rintro w' ⟨s0, s1, s2, s3⟩
              go_simp
              with_reducible rfl
            rotate_left
            · simp only [Act.put, List.setIfInBounds_toArray, List.set_cons_zero, List.set_cons_succ, i64_w, i32_w]
              rfl
            refine pure_ (i := 4) (N := some 113) (v := ?_) (a' := ?_) #[true, true, true, true, true, false, false, false, false, false, false, false, false, false, false, false, false, false, false, false, false, false, false, false] rfl rfl (any_of HT_.out (by kernel_rfl)) (fun _ _ _ h => h) (Or.inl ⟨by rfl, ?_⟩) ?_ ?_
            rotate_left
            · intro w'
              go_simp
              with_reducible rfl
            rotate_left
            · simp only [Act.put, List.setIfInBounds_toArray, List.set_cons_zero, List.set_cons_succ, i64_w, i32_w]
              rfl
            refine pure_ (i := 5) (N := some 114) (v := ?_) (a' := ?_) #[true, true, true, true, true, true, false, false, false, false, false, false, false, false, false, false, false, false, false, false, false, false, false, false] rfl rfl (any_of HT_.out (by kernel_rfl)) (fun _ _ _ h => h) (Or.inl ⟨by rfl, ?_⟩) ?_ ?_
            rotate_left
            · intro w'
              go_simp
              with_reducible rfl
            rotate_left
            · simp only [Act.put, List.setIfInBounds_toArray, List.set_cons_zero, List.set_cons_succ, i64_w, i32_w]
              rfl
            refine pure_ (i := 6) (N := some 115) (v := ?_) (a' := ?_) #[true, true, true, true, true, true, true, false, false, false, false, false, false, false, false, false, false, false, false, false, false, false, false, false] rfl rfl (any_of HT_.out (by kernel_rfl)) (fun _ _ _ h => h) (Or.inl ⟨by rfl, ?_⟩) ?_ ?_
            rotate_left
            · intro w'
              go_simp
              with_reducible rfl
            rotate_left
            · simp only [Act.put, List.setIfInBounds_toArray, List.set_cons_zero, List.set_cons_succ, i64_w, i32_w]
              rfl
            refine pure_ (i := 7) (N := some 116) (v := ?_) (a' := ?_) #[true, true, true, true, true, true, true, true, false, false, false, false, false, false, false, false, false, false, false, false, false, false, false, false] rfl rfl (any_of HT_.out (by kernel_rfl)) (fun _ _ _ h => h) (Or.inl ⟨by rfl, ?_⟩) ?_ ?_
            rotate_left
            · intro w'
              go_simp
              with_reducible rfl
            rotate_left
            · simp only [Act.put, List.setIfInBounds_toArray, List.set_cons_zero, List.set_cons_succ, i64_w, i32_w]
              rfl
            refine take_ (i := 8) (N := some 117) (v := ?_) (a' := ?_) #[true, true, true, true, true, true, true, true, true, false, false, false, false, false, false, false, false, false, false, false, false, false, false, false] rfl rfl (take_ofW HT_.out HW_.out (by kernel_rfl)) (fun _ _ _ h => h) (Or.inl ⟨by rfl, ?_⟩) hHeld ?_ ?_
            rotate_left
            · rintro w' ⟨s0, s1, s2, s3⟩
              go_simp
              with_reducible rfl
            rotate_left
            · simp only [Act.put, List.setIfInBounds_toArray, List.set_cons_zero, List.set_cons_succ, i64_w, i32_w]
              rfl
            refine pure_ (i := 9) (N := some 118) (v := ?_) (a' := ?_) #[true, true, true, true, true, true, true, true, true, true, false, false, false, false, false, false, false, false, false, false, false, false, false, false] rfl rfl (any_of HT_.out (by kernel_rfl)) (fun _ _ _ h => h) (Or.inl ⟨by rfl, ?_⟩) ?_ ?_
            rotate_left
            · intro w'
              go_simp
              with_reducible rfl
            rotate_left
            · simp only [Act.put, List.setIfInBounds_toArray, List.set_cons_zero, List.set_cons_succ, i64_w, i32_w]
              rfl
            refine pure_ (i := 10) (N := some 119) (v := ?_) (a' := ?_) #[true, true, true, true, true, true, true, true, true, true, true, false, false, false, false, false, false, false, false, false, false, false, false, false] rfl rfl (any_of HT_.out (by kernel_rfl)) (fun _ _ _ h => h) (Or.inl ⟨by rfl, ?_⟩) ?_ ?_
            rotate_left
            · intro w'
              go_simp
              with_reducible rfl
            rotate_left
            · simp only [Act.put, List.setIfInBounds_toArray, List.set_cons_zero, List.set_cons_succ, i64_w, i32_w]
              rfl
            refine pure_ (i := 11) (N := some 120) (v := ?_) (a' := ?_) #[true, true, true, true, true, true, true, true, true, true, true, true, false, false, false, false, false, false, false, false, false, false, false, false] rfl rfl (any_of HT_.out (by kernel_rfl)) (fun _ _ _ h => h) (Or.inl ⟨by rfl, ?_⟩) ?_ ?_
            rotate_left
            · intro w'
              go_simp
              with_reducible rfl
            rotate_left
            · simp only [Act.put, List.setIfInBounds_toArray, List.set_cons_zero, List.set_cons_succ, i64_w, i32_w]
              rfl
            refine take_ (i := 12) (N := some 121) (v := ?_) (a' := ?_) #[true, true, true, true, true, true, true, true, true, true, true, true, true, false, false, false, false, false, false, false, false, false, false, false] rfl rfl (take_ofW HT_.out HW_.out (by kernel_rfl)) (fun _ _ _ h => h) (Or.inl ⟨by rfl, ?_⟩) hHeld ?_ ?_
            rotate_left
            · rintro w' ⟨s0, s1, s2, s3⟩
              go_simp
              with_reducible rfl
            rotate_left
            · simp only [Act.put, List.setIfInBounds_toArray, List.set_cons_zero, List.set_cons_succ, i64_w, i32_w]
              rfl
            refine pure_ (i := 13) (N := some 122) (v := ?_) (a' := ?_) #[true, true, true, true, true, true, true, true, true, true, true, true, true, true, false, false, false, false, false, false, false, false, false, false] rfl rfl (any_of HT_.out (by kernel_rfl)) (fun _ _ _ h => h) (Or.inl ⟨by rfl, ?_⟩) ?_ ?_
            rotate_left
            · intro w'
              go_simp
              with_reducible rfl
            rotate_left
            · simp only [Act.put, List.setIfInBounds_toArray, List.set_cons_zero, List.set_cons_succ, i64_w, i32_w]
              rfl
            refine pure_ (i := 14) (N := some 123) (v := ?_) (a' := ?_) #[true, true, true, true, true, true, true, true, true, true, true, true, true, true, true, false, false, false, false, false, false, false, false, false] rfl rfl (any_of HT_.out (by kernel_rfl)) (fun _ _ _ h => h) (Or.inl ⟨by rfl, ?_⟩) ?_ ?_
            rotate_left
            · intro w'
              go_simp
              with_reducible rfl
            rotate_left
            · simp only [Act.put, List.setIfInBounds_toArray, List.set_cons_zero, List.set_cons_succ, i64_w, i32_w]
              rfl
            refine pure_ (i := 15) (N := some 124) (v := ?_) (a' := ?_) #[true, true, true, true, true, true, true, true, true, true, true, true, true, true, true, true, false, false, false, false, false, false, false, false] rfl rfl (any_of HT_.out (by kernel_rfl)) (fun _ _ _ h => h) (Or.inl ⟨by rfl, ?_⟩) ?_ ?_
            rotate_left
            · intro w'
              go_simp
              with_reducible rfl
            rotate_left
            · simp only [Act.put, List.setIfInBounds_toArray, List.set_cons_zero, List.set_cons_succ, i64_w, i32_w]
              rfl
            refine take_ (i := 16) (N := some 125) (v := ?_) (a' := ?_) #[true, true, true, true, true, true, true, true, true, true, true, true, true, true, true, true, true, false, false, false, false, false, false, false] rfl rfl (take_ofW HT_.out HW_.out (by kernel_rfl)) (fun _ _ _ h => h) (Or.inl ⟨by rfl, ?_⟩) hHeld ?_ ?_
            rotate_left
            · rintro w' ⟨s0, s1, s2, s3⟩
              go_simp
              with_reducible rfl
            rotate_left
            · simp only [Act.put, List.setIfInBounds_toArray, List.set_cons_zero, List.set_cons_succ, i64_w, i32_w]
              rfl
            refine pure_ (i := 17) (N := some 126) (v := ?_) (a' := ?_) #[true, true, true, true, true, true, true, true, true, true, true, true, true, true, true, true, true, true, false, false, false, false, false, false] rfl rfl (any_of HT_.out (by kernel_rfl)) (fun _ _ _ h => h) (Or.inl ⟨by rfl, ?_⟩) ?_ ?_
            rotate_left
            · intro w'
              go_simp
              with_reducible rfl
            rotate_left
            · simp only [Act.put, List.setIfInBounds_toArray, List.set_cons_zero, List.set_cons_succ, i64_w, i32_w]
              rfl
            refine pure_ (i := 18) (N := some 127) (v := ?_) (a' := ?_) #[true, true, true, true, true, true, true, true, true, true, true, true, true, true, true, true, true, true, true, false, false, false, false, false] rfl rfl (any_of HT_.out (by kernel_rfl)) (fun _ _ _ h => h) (Or.inl ⟨by rfl, ?_⟩) ?_ ?_
            rotate_left
            · intro w'
              go_simp
              with_reducible rfl
            rotate_left
            · simp only [Act.put, List.setIfInBounds_toArray, List.set_cons_zero, List.set_cons_succ, i64_w, i32_w]
              rfl
            refine pure_ (i := 19) (N := some 128) (v := ?_) (a' := ?_) #[true, true, true, true, true, true, true, true, true, true, true, true, true, true, true, true, true, true, true, true, false, false, false, false] rfl rfl (any_of HT_.out (by kernel_rfl)) (fun _ _ _ h => h) (Or.inl ⟨by rfl, ?_⟩) ?_ ?_
            rotate_left
            · intro w'
              go_simp
              with_reducible rfl
            rotate_left
            · simp only [Act.put, List.setIfInBounds_toArray, List.set_cons_zero, List.set_cons_succ, i64_w, i32_w]
              rfl
            refine take_ (i := 20) (N := some 129) (v := ?_) (a' := ?_) #[true, true, true, true, true, true, true, true, true, true, true, true, true, true, true, true, true, true, true, true, true, false, false, false] rfl rfl (take_ofW HT_.out HW_.out (by kernel_rfl)) (fun _ _ _ h => h) (Or.inl ⟨by rfl, ?_⟩) hHeld ?_ ?_
            rotate_left
            · rintro w' ⟨s0, s1, s2, s3⟩
              go_simp
              with_reducible rfl
            rotate_left
            · simp only [Act.put, List.setIfInBounds_toArray, List.set_cons_zero, List.set_cons_succ, i64_w, i32_w]
              rfl
            refine pure_ (i := 21) (N := some 130) (v := ?_) (a' := ?_) #[true, true, true, true, true, true, true, true, true, true, true, true, true, true, true, true, true, true, true, true, true, true, false, false] rfl rfl (any_of HT_.out (by kernel_rfl)) (fun _ _ _ h => h) (Or.inl ⟨by rfl, ?_⟩) ?_ ?_
            rotate_left
            · intro w'
              go_simp
              with_reducible rfl
            rotate_left
            · simp only [Act.put, List.setIfInBounds_toArray, List.set_cons_zero, List.set_cons_succ, i64_w, i32_w]
              rfl
            refine pure_ (i := 22) (N := some 131) (v := ?_) (a' := ?_) #[true, true, true, true, true, true, true, true, true, true, true, true, true, true, true, true, true, true, true, true, true, true, true, false] rfl rfl (any_of HT_.out (by kernel_rfl)) (fun _ _ _ h => h) (Or.inl ⟨by rfl, ?_⟩) ?_ ?_
            rotate_left
            · intro w'
              go_simp
              with_reducible rfl
            rotate_left
            · simp only [Act.put, List.setIfInBounds_toArray, List.set_cons_zero, List.set_cons_succ, i64_w, i32_w]
              rfl
            refine last_ (i := 23) (N := none) #[true, true, true, true, true, true, true, true, true, true, true, true, true, true, true, true, true, true, true, true, true, true, true, true] rfl rfl (one_of HT_.out (by kernel_rfl)) (by decide) (fun K hK => ?_)
            obtain ⟨⟨x0, hx0⟩, hfr⟩ := HLP.out.la m (of_eq_true p5)
            refine skip_ (w1 := ?_) (by rfl) rfl ?_ ?_
            rotate_left
            · go_simp
              rfl
            refine hK.out _ _ ?_
            have nLP := HLP.out.setLo HMW.out (of_eq_true p5)
            rw [← HLO0.out] at nLP
            obtain ⟨wx, hwn⟩ : ∃ w, w = wd.setCell ⟨gl, m, none⟩ (.int .i64 lo0) := ⟨_, rfl⟩
            rw [← hwn] at nLP
            rw [← hwn]
            clear hwn hx0 hfr x0 HLP
            have HLP := Lib.hid nLP
            clear nLP
            clear hK K
            refine done_ (done_of HT_.out (by kernel_rfl)) ?_
            clear HS18 hHeld
            go_upto_region 19 with (fail)
            obtain ⟨wd, hwd⟩ : ∃ wd, wd = wx.drew := ⟨_, rfl⟩
            have nLP := HLP.out.drew
            rw [← hwd] at nLP
            have nS := nLP.sc m HML.out
            rw [← HFX.out.1, ← HFX.out.2] at nS
            have nh := nLP.hc (m + 1) (Nat.le_refl _) hmn2
            rw [← HHI1.out] at nh
            clear HLP
            have HLP := Lib.hid nLP
            have HS19 := Lib.hid (And.intro nLP.box.c3 (And.intro nh (And.intro nLP.box.c0 (And.intro nS.2 nLP.box.c1))))
            clear nLP nS nh
            refine start_ (n := 30) (S := fun w' => w'.cell? ⟨B, 3, none⟩ = some (.slice (some ⟨gh, 0, none⟩) N1 N1) ∧ w'.cell? ⟨gh, m + 1, none⟩ = some (.int .i64 hi1) ∧ w'.cell? ⟨B, 0, none⟩ = some (.slice (some ⟨G, 0, none⟩) n c2) ∧ w'.cell? ⟨G, m * 2 + 1, none⟩ = some (.int .i64 f1) ∧ w'.cell? ⟨B, 1, none⟩ = some (.int .i64 rk)) (ds := [29]) #[false, false, false, false, false, false, false, false, false, false, false, false, false, false, false, false, false, false, false, false, false, false, false, false, false, false, false, false, false, false] (by kernel_rfl) rfl rfl (by rw [← hwd]; exact HS19.out) (fun hHeld => ?_); refine with_tabW tab31_19 bits31_19 (fun HT_ HW_ => ?_)
            rw [← hwd] at hHeld ⊢; clear hwd
            refine pure_ (i := 0) (N := some 132) (v := ?_) (a' := ?_) #[true, false, false, false, false, false, false, false, false, false, false, false, false, false, false, false, false, false, false, false, false, false, false, false, false, false, false, false, false, false] rfl rfl (any_of HT_.out (by kernel_rfl)) (fun _ _ _ h => h) (Or.inl ⟨by rfl, ?_⟩) ?_ ?_
            rotate_left
            · intro w'
              go_simp
              with_reducible rfl
            rotate_left
            · simp only [Act.put, List.setIfInBounds_toArray, List.set_cons_zero, List.set_cons_succ, i64_w, i32_w]
              rfl
            refine pure_ (i := 1) (N := some 133) (v := ?_) (a' := ?_) #[true, true, false, false, false, false, false, false, false, false, false, false, false, false, false, false, false, false, false, false, false, false, false, false, false, false, false, false, false, false] rfl rfl (any_of HT_.out (by kernel_rfl)) (fun _ _ _ h => h) (Or.inl ⟨by rfl, ?_⟩) ?_ ?_
            rotate_left
            · intro w'
              go_simp
              with_reducible rfl
            rotate_left
            · simp only [Act.put, List.setIfInBounds_toArray, List.set_cons_zero, List.set_cons_succ, i64_w, i32_w]
              rfl
            refine pure_ (i := 2) (N := some 134) (v := ?_) (a' := ?_) #[true, true, true, false, false, false, false, false, false, false, false, false, false, false, false, false, false, false, false, false, false, false, false, false, false, false, false, false, false, false] rfl rfl (any_of HT_.out (by kernel_rfl)) (fun _ _ _ h => h) (Or.inl ⟨by rfl, ?_⟩) ?_ ?_
            rotate_left
            · intro w'
              go_simp
              with_reducible rfl
            rotate_left
            · simp only [Act.put, List.setIfInBounds_toArray, List.set_cons_zero, List.set_cons_succ, i64_w, i32_w]
              rfl
            refine take_ (i := 3) (N := some 135) (v := ?_) (a' := ?_) #[true, true, true, true, false, false, false, false, false, false, false, false, false, false, false, false, false, false, false, false, false, false, false, false, false, false, false, false, false, false] rfl rfl (take_ofW HT_.out HW_.out (by kernel_rfl)) (fun _ _ _ h => h) (Or.inl ⟨by rfl, ?_⟩) hHeld ?_ ?_
            rotate_left
            · rintro w' ⟨s0, s1, s2, s3, s4⟩
              go_simp
              with_reducible rfl
            rotate_left
            · simp only [Act.put, List.setIfInBounds_toArray, List.set_cons_zero, List.set_cons_succ, i64_w, i32_w]
              rfl
            refine pure_ (i := 4) (N := some 136) (v := ?_) (a' := ?_) #[true, true, true, true, true, false, false, false, false, false, false, false, false, false, false, false, false, false, false, false, false, false, false, false, false, false, false, false, false, false] rfl rfl (any_of HT_.out (by kernel_rfl)) (fun _ _ _ h => h) (Or.inl ⟨by rfl, ?_⟩) ?_ ?_
            rotate_left
            · intro w'
              go_simp
              with_reducible rfl
            rotate_left
            · simp only [Act.put, List.setIfInBounds_toArray, List.set_cons_zero, List.set_cons_succ, i64_w, i32_w]
              rfl
            refine pure_ (i := 5) (N := some 137) (v := ?_) (a' := ?_) #[true, true, true, true, true, true, false, false, false, false, false, false, false, false, false, false, false, false, false, false, false, false, false, false, false, false, false, false, false, false] rfl rfl (any_of HT_.out (by kernel_rfl)) (fun _ _ _ h => h) (Or.inl ⟨by rfl, ?_⟩) ?_ ?_
            rotate_left
            · intro w'
              go_simp
              with_reducible rfl
            rotate_left
            · simp only [Act.put, List.setIfInBounds_toArray, List.set_cons_zero, List.set_cons_succ, i64_w, i32_w]
              rfl
            refine pure_ (i := 6) (N := some 138) (v := ?_) (a' := ?_) #[true, true, true, true, true, true, true, false, false, false, false, false, false, false, false, false, false, false, false, false, false, false, false, false, false, false, false, false, false, false] rfl rfl (any_of HT_.out (by kernel_rfl)) (fun _ _ _ h => h) (Or.inl ⟨by rfl, ?_⟩) ?_ ?_
            rotate_left
            · intro w'
              go_simp
              with_reducible rfl
            rotate_left
            · simp only [Act.put, List.setIfInBounds_toArray, List.set_cons_zero, List.set_cons_succ, i64_w, i32_w]
              rfl
            refine pure_ (i := 7) (N := some 139) (v := ?_) (a' := ?_) #[true, true, true, true, true, true, true, true, false, false, false, false, false, false, false, false, false, false, false, false, false, false, false, false, false, false, false, false, false, false] rfl rfl (any_of HT_.out (by kernel_rfl)) (fun _ _ _ h => h) (Or.inl ⟨by rfl, ?_⟩) ?_ ?_
            rotate_left
            · intro w'
              go_simp
              with_reducible rfl
            rotate_left
            · simp only [Act.put, List.setIfInBounds_toArray, List.set_cons_zero, List.set_cons_succ, i64_w, i32_w]
              rfl
            refine take_ (i := 8) (N := some 140) (v := ?_) (a' := ?_) #[true, true, true, true, true, true, true, true, true, false, false, false, false, false, false, false, false, false, false, false, false, false, false, false, false, false, false, false, false, false] rfl rfl (take_ofW HT_.out HW_.out (by kernel_rfl)) (fun _ _ _ h => h) (Or.inl ⟨by rfl, ?_⟩) hHeld ?_ ?_
            rotate_left
            · rintro w' ⟨s0, s1, s2, s3, s4⟩
              go_simp
              with_reducible rfl
            rotate_left
            · simp only [Act.put, List.setIfInBounds_toArray, List.set_cons_zero, List.set_cons_succ, i64_w, i32_w]
              rfl
            refine pure_ (i := 9) (N := some 141) (v := ?_) (a' := ?_) #[true, true, true, true, true, true, true, true, true, true, false, false, false, false, false, false, false, false, false, false, false, false, false, false, false, false, false, false, false, false] rfl rfl (any_of HT_.out (by kernel_rfl)) (fun _ _ _ h => h) (Or.inl ⟨by rfl, ?_⟩) ?_ ?_
            rotate_left
            · intro w'
              go_simp
              with_reducible rfl
            rotate_left
            · simp only [Act.put, List.setIfInBounds_toArray, List.set_cons_zero, List.set_cons_succ, i64_w, i32_w]
              rfl
            refine pure_ (i := 10) (N := some 142) (v := ?_) (a' := ?_) #[true, true, true, true, true, true, true, true, true, true, true, false, false, false, false, false, false, false, false, false, false, false, false, false, false, false, false, false, false, false] rfl rfl (any_of HT_.out (by kernel_rfl)) (fun _ _ _ h => h) (Or.inl ⟨by rfl, ?_⟩) ?_ ?_
            rotate_left
            · intro w'
              go_simp
              with_reducible rfl
            rotate_left
            · simp only [Act.put, List.setIfInBounds_toArray, List.set_cons_zero, List.set_cons_succ, i64_w, i32_w]
              rfl
            refine pure_ (i := 11) (N := some 143) (v := ?_) (a' := ?_) #[true, true, true, true, true, true, true, true, true, true, true, true, false, false, false, false, false, false, false, false, false, false, false, false, false, false, false, false, false, false] rfl rfl (any_of HT_.out (by kernel_rfl)) (fun _ _ _ h => h) (Or.inl ⟨by rfl, ?_⟩) ?_ ?_
            rotate_left
            · intro w'
              go_simp
              with_reducible rfl
            rotate_left
            · simp only [Act.put, List.setIfInBounds_toArray, List.set_cons_zero, List.set_cons_succ, i64_w, i32_w]
              rfl
            refine take_ (i := 12) (N := some 144) (v := ?_) (a' := ?_) #[true, true, true, true, true, true, true, true, true, true, true, true, true, false, false, false, false, false, false, false, false, false, false, false, false, false, false, false, false, false] rfl rfl (take_ofW HT_.out HW_.out (by kernel_rfl)) (fun _ _ _ h => h) (Or.inl ⟨by rfl, ?_⟩) hHeld ?_ ?_
            rotate_left
            · rintro w' ⟨s0, s1, s2, s3, s4⟩
              go_simp
              with_reducible rfl
            rotate_left
            · simp only [Act.put, List.setIfInBounds_toArray, List.set_cons_zero, List.set_cons_succ, i64_w, i32_w]
              rfl
            refine pure_ (i := 13) (N := some 145) (v := ?_) (a' := ?_) #[true, true, true, true, true, true, true, true, true, true, true, true, true, true, false, false, false, false, false, false, false, false, false, false, false, false, false, false, false, false] rfl rfl (any_of HT_.out (by kernel_rfl)) (fun _ _ _ h => h) (Or.inl ⟨by rfl, ?_⟩) ?_ ?_
            rotate_left
            · intro w'
              go_simp
              with_reducible rfl
            rotate_left
            · simp only [Act.put, List.setIfInBounds_toArray, List.set_cons_zero, List.set_cons_succ, i64_w, i32_w]
              rfl
            refine pure_ (i := 14) (N := some 146) (v := ?_) (a' := ?_) #[true, true, true, true, true, true, true, true, true, true, true, true, true, true, true, false, false, false, false, false, false, false, false, false, false, false, false, false, false, false] rfl rfl (any_of HT_.out (by kernel_rfl)) (fun _ _ _ h => h) (Or.inl ⟨by rfl, ?_⟩) ?_ ?_
            rotate_left
            · intro w'
              go_simp
              with_reducible rfl
            rotate_left
            · simp only [Act.put, List.setIfInBounds_toArray, List.set_cons_zero, List.set_cons_succ, i64_w, i32_w]
              rfl
            refine pure_ (i := 15) (N := some 147) (v := ?_) (a' := ?_) #[true, true, true, true, true, true, true, true, true, true, true, true, true, true, true, true, false, false, false, false, false, false, false, false, false, false, false, false, false, false] rfl rfl (any_of HT_.out (by kernel_rfl)) (fun _ _ _ h => h) (Or.inl ⟨by rfl, ?_⟩) ?_ ?_
            rotate_left
            · intro w'
              go_simp
              with_reducible rfl
            rotate_left
            · simp only [Act.put, List.setIfInBounds_toArray, List.set_cons_zero, List.set_cons_succ, i64_w, i32_w]
              rfl
            refine take_ (i := 16) (N := some 148) (v := ?_) (a' := ?_) #[true, true, true, true, true, true, true, true, true, true, true, true, true, true, true, true, true, false, false, false, false, false, false, false, false, false, false, false, false, false] rfl rfl (take_ofW HT_.out HW_.out (by kernel_rfl)) (fun _ _ _ h => h) (Or.inl ⟨by rfl, ?_⟩) hHeld ?_ ?_
            rotate_left
            · rintro w' ⟨s0, s1, s2, s3, s4⟩
              go_simp
              with_reducible rfl
            rotate_left
            · simp only [Act.put, List.setIfInBounds_toArray, List.set_cons_zero, List.set_cons_succ, i64_w, i32_w]
              rfl
            refine pure_ (i := 17) (N := some 149) (v := ?_) (a' := ?_) #[true, true, true, true, true, true, true, true, true, true, true, true, true, true, true, true, true, true, false, false, false, false, false, false, false, false, false, false, false, false] rfl rfl (any_of HT_.out (by kernel_rfl)) (fun _ _ _ h => h) (Or.inl ⟨by rfl, ?_⟩) ?_ ?_
            rotate_left
            · intro w'
              go_simp
              with_reducible rfl
            rotate_left
            · simp only [Act.put, List.setIfInBounds_toArray, List.set_cons_zero, List.set_cons_succ, i64_w, i32_w]
              rfl
            refine pure_ (i := 18) (N := some 150) (v := ?_) (a' := ?_) #[true, true, true, true, true, true, true, true, true, true, true, true, true, true, true, true, true, true, true, false, false, false, false, false, false, false, false, false, false, false] rfl rfl (any_of HT_.out (by kernel_rfl)) (fun _ _ _ h => h) (Or.inl ⟨by rfl, ?_⟩) ?_ ?_
            rotate_left
            · intro w'
              go_simp
              with_reducible rfl
            rotate_left
            · simp only [Act.put, List.setIfInBounds_toArray, List.set_cons_zero, List.set_cons_succ, i64_w, i32_w]
              rfl
            refine pure_ (i := 19) (N := some 151) (v := ?_) (a' := ?_) #[true, true, true, true, true, true, true, true, true, true, true, true, true, true, true, true, true, true, true, true, false, false, false, false, false, false, false, false, false, false] rfl rfl (any_of HT_.out (by kernel_rfl)) (fun _ _ _ h => h) (Or.inl ⟨by rfl, ?_⟩) ?_ ?_
            rotate_left
            · intro w'
              go_simp
              with_reducible rfl
            rotate_left
            · simp only [Act.put, List.setIfInBounds_toArray, List.set_cons_zero, List.set_cons_succ, i64_w, i32_w]
              rfl
            refine take_ (i := 20) (N := some 152) (v := ?_) (a' := ?_) #[true, true, true, true, true, true, true, true, true, true, true, true, true, true, true, true, true, true, true, true, true, false, false, false, false, false, false, false, false, false] rfl rfl (take_ofW HT_.out HW_.out (by kernel_rfl)) (fun _ _ _ h => h) (Or.inl ⟨by rfl, ?_⟩) hHeld ?_ ?_
            rotate_left
            · rintro w' ⟨s0, s1, s2, s3, s4⟩
              go_simp
              with_reducible rfl
            rotate_left
            · simp only [Act.put, List.setIfInBounds_toArray, List.set_cons_zero, List.set_cons_succ, i64_w, i32_w]
              rfl
            refine pure_ (i := 21) (N := some 153) (v := ?_) (a' := ?_) #[true, true, true, true, true, true, true, true, true, true, true, true, true, true, true, true, true, true, true, true, true, true, false, false, false, false, false, false, false, false] rfl rfl (any_of HT_.out (by kernel_rfl)) (fun _ _ _ h => h) (Or.inl ⟨by rfl, ?_⟩) ?_ ?_
            rotate_left
            · intro w'
              go_simp
              with_reducible rfl
            rotate_left
            · simp only [Act.put, List.setIfInBounds_toArray, List.set_cons_zero, List.set_cons_succ, i64_w, i32_w]
              rfl
            refine pure_ (i := 22) (N := some 154) (v := ?_) (a' := ?_) #[true, true, true, true, true, true, true, true, true, true, true, true, true, true, true, true, true, true, true, true, true, true, true, false, false, false, false, false, false, false] rfl rfl (any_of HT_.out (by kernel_rfl)) (fun _ _ _ h => h) (Or.inl ⟨by rfl, ?_⟩) ?_ ?_
            rotate_left
            · intro w'
              go_simp
              with_reducible rfl
            rotate_left
            · simp only [Act.put, List.setIfInBounds_toArray, List.set_cons_zero, List.set_cons_succ, i64_w, i32_w]
              rfl
            refine pure_ (i := 23) (N := some 155) (v := ?_) (a' := ?_) #[true, true, true, true, true, true, true, true, true, true, true, true, true, true, true, true, true, true, true, true, true, true, true, true, false, false, false, false, false, false] rfl rfl (any_of HT_.out (by kernel_rfl)) (fun _ _ _ h => h) (Or.inl ⟨by rfl, ?_⟩) ?_ ?_
            rotate_left
            · intro w'
              go_simp
              with_reducible rfl
            rotate_left
            · simp only [Act.put, List.setIfInBounds_toArray, List.set_cons_zero, List.set_cons_succ, i64_w, i32_w]
              rfl
            refine take_ (i := 24) (N := some 156) (v := ?_) (a' := ?_) #[true, true, true, true, true, true, true, true, true, true, true, true, true, true, true, true, true, true, true, true, true, true, true, true, true, false, false, false, false, false] rfl rfl (take_ofW HT_.out HW_.out (by kernel_rfl)) (fun _ _ _ h => h) (Or.inl ⟨by rfl, ?_⟩) hHeld ?_ ?_
            rotate_left
            · rintro w' ⟨s0, s1, s2, s3, s4⟩
              go_simp
              with_reducible rfl
            rotate_left
            · simp only [Act.put, List.setIfInBounds_toArray, List.set_cons_zero, List.set_cons_succ, i64_w, i32_w]
              rfl
            refine pure_ (i := 25) (N := some 157) (v := ?_) (a' := ?_) #[true, true, true, true, true, true, true, true, true, true, true, true, true, true, true, true, true, true, true, true, true, true, true, true, true, true, false, false, false, false] rfl rfl (any_of HT_.out (by kernel_rfl)) (fun _ _ _ h => h) (Or.inl ⟨by rfl, ?_⟩) ?_ ?_
            rotate_left
            · intro w'
              go_simp
              with_reducible rfl
            rotate_left
            · simp only [Act.put, List.setIfInBounds_toArray, List.set_cons_zero, List.set_cons_succ, i64_w, i32_w]
              rfl
            refine pure_ (i := 26) (N := some 158) (v := ?_) (a' := ?_) #[true, true, true, true, true, true, true, true, true, true, true, true, true, true, true, true, true, true, true, true, true, true, true, true, true, true, true, false, false, false] rfl rfl (any_of HT_.out (by kernel_rfl)) (fun _ _ _ h => h) (Or.inl ⟨by rfl, ?_⟩) ?_ ?_
            rotate_left
            · intro w'
              go_simp
              with_reducible rfl
            rotate_left
            · simp only [Act.put, List.setIfInBounds_toArray, List.set_cons_zero, List.set_cons_succ, i64_w, i32_w]
              rfl
            refine pure_ (i := 27) (N := some 159) (v := ?_) (a' := ?_) #[true, true, true, true, true, true, true, true, true, true, true, true, true, true, true, true, true, true, true, true, true, true, true, true, true, true, true, true, false, false] rfl rfl (any_of HT_.out (by kernel_rfl)) (fun _ _ _ h => h) (Or.inl ⟨by rfl, ?_⟩) ?_ ?_
            rotate_left
            · intro w'
              go_simp
              with_reducible rfl
            rotate_left
            · simp only [Act.put, List.setIfInBounds_toArray, List.set_cons_zero, List.set_cons_succ, i64_w, i32_w]
              rfl
            refine pure_ (i := 28) (N := some 160) (v := ?_) (a' := ?_) #[true, true, true, true, true, true, true, true, true, true, true, true, true, true, true, true, true, true, true, true, true, true, true, true, true, true, true, true, true, false] rfl rfl (any_of HT_.out (by kernel_rfl)) (fun _ _ _ h => h) (Or.inl ⟨by rfl, ?_⟩) ?_ ?_
            rotate_left
            · intro w'
              go_simp
              with_reducible rfl
            rotate_left
            · simp only [Act.put, List.setIfInBounds_toArray, List.set_cons_zero, List.set_cons_succ, i64_w, i32_w]
              rfl
            refine last_ (i := 29) (N := none) #[true, true, true, true, true, true, true, true, true, true, true, true, true, true, true, true, true, true, true, true, true, true, true, true, true, true, true, true, true, true] rfl rfl (one_of HT_.out (by kernel_rfl)) (by decide) (fun K hK => ?_)
            obtain ⟨⟨x0, hx0⟩, hfr⟩ := HLP.out.ha m (of_eq_true p5)
            refine skip_ (w1 := ?_) (by rfl) rfl ?_ ?_
            rotate_left
            · go_simp
              rfl
            refine hK.out _ _ ?_
            have nLP := HLP.out.setHi HMW.out (of_eq_true p5)
            rw [← HHI0.out] at nLP
            obtain ⟨wy, hwn⟩ : ∃ w, w = wd.setCell ⟨gh, m, none⟩ (.int .i64 hi0) := ⟨_, rfl⟩
            rw [← hwn] at nLP
            rw [← hwn]
            clear hwn hx0 hfr x0 HLP
            have HLP := Lib.hid nLP
            clear nLP
            clear hK K
            refine done_ (done_of HT_.out (by kernel_rfl)) ?_
            clear HS19 hHeld
            try go_wp2
            go_roundg m
            case measure => clear e1 e2 e3 e4 e5 e6; have := HKM.out; omega
            case rel => exact ⟨m, rfl, Nat.le_of_succ_le hmn2, rfl, ⟨HLP.out⟩⟩
          | zero =>
            have hz : (((0 : Nat) : Int) - 1) = -1 := by omega
            rw [hz]
            clear hz
            have hsok := slots_ok hvB
            rw [← HSL.out, ← HSLE.out] at hsok
            have hrkb : 0 ≤ rk ∧ rk ≤ 2000 := by rw [HRK.out]; omega
            have hok := HLP0.out.cx_ok HNL.out hn0 hn1 hrkb.1 hrkb.2 hsok
            have hinv := HLP0.out.inv HMW.out HMB.out hGM HN1.out HNL.out
            have hj0 : J (fun k => W.heap.size ≤ k ∧ k < wr.heap.size) [] wr := hJ _ _ _ _ _ H0.out (StepT.of_below HLP0.out.bel) ⟨fun _ h => h.elim, fun k hk => .inr hk.1⟩
            obtain ⟨C, hC⟩ : ∃ C, C = cxOf sl rk B G gl gh L l c2 wr N1 := ⟨_, rfl⟩
            rw [← hC] at hok hinv
            have hslot := sea_slot C hok J Jx hJ hJx (hY C (by rw [hC]; rfl)) sl
            have hCs : C.sl = sl := by rw [hC]; rfl
            have hCr : C.rk = rk := by rw [hC]; rfl
            have hCB : C.B = B := by rw [hC]; rfl
            have hcst : ∀ (T : Nat → Prop) (w' : World) (rows : List (List Int)), Inv C T w' rows → w'.cell? ⟨B, 3, none⟩ = some (.slice (some ⟨gh, 0, none⟩) (n + 1) N1) ∧ w'.cell? ⟨gh, 0, none⟩ = some (.int .i64 (highOf rk sl)) := by
              intro T w' rows h
              have h1 := h.c.cell.2.2.2.1
              have h2 := h.c.hi_ 0 (Nat.zero_le _)
              rw [hC] at h1 h2
              refine ⟨?_, h2⟩
              rw [← HNL.out]; exact h1
            have hlb := lowOf_ok hsok
            have hhb := highOf_ok hrkb.1 hrkb.2 hsok
            have hnl := HNL.out
            obtain ⟨m0, hm0⟩ : ∃ x : Int, x = lowOf sl := ⟨_, rfl⟩
            obtain ⟨m1, hm1⟩ : ∃ x : Int, x = highOf rk sl := ⟨_, rfl⟩
            rw [← hm0] at hlb
            rw [← hm1] at hhb
            obtain ⟨F, hF⟩ : ∃ F, F = slotO rk sl := ⟨_, rfl⟩
            obtain ⟨rs, hrs⟩ : ∃ rs, rs = irange m0 m1 := ⟨_, rfl⟩
            have hall : allO vars bv bl bi = rs.flatMap F := by
              unfold allO
              rw [if_pos hvB, ← HSL.out, ← HSLE.out, ← HRK.out, hF, hrs, hm0, hm1]
            have hcount : ∀ j : Nat, j < rs.length ↔ m0 + (j : Int) ≤ m1 := fun j => by rw [hrs, irange_length]; omega
            have hget : ∀ (j : Nat) (h : j < rs.length), rs[j] = m0 + (j : Int) := fun j h => by subst hrs; exact irange_get _ _ j h
            have hstp : ∀ (j : Nat), j < rs.length → m0 + (j : Int) ≤ m1 ∧ wrap64 (m0 + (j : Int) + 1) = m0 + ((j + 1 : Nat) : Int) ∧ 0 ≤ m0 + (j : Int) ∧ m0 + (j : Int) ≤ 1099511627776 := fun j hjl => by
              have h1 := (hcount j).1 hjl
              refine ⟨by omega, ?_, by omega, by omega⟩
              rw [wrap64_of' (by omega) (by omega)]; omega
            have hend : ¬ m0 + (rs.length : Int) ≤ m1 := mt (hcount rs.length).2 (Nat.lt_irrefl _)
            have hcall : ∀ (j : Nat) (T : Nat → Prop) (w' : World), j < rs.length → J T ((rs.take j).flatMap F) w' → Inv C T w' (List.replicate sl.length []) → Calls Try.prog 33 #[.pointer (some ⟨B, 0, none⟩), .int .i64 0, .int .i64 (m0 + (j : Int))] w' fun e W' => SPost C J Jx ((rs.take j).flatMap F) (F (m0 + (j : Int))) (List.replicate sl.length []) e W' := by
              intro j T w' hj h1 h2
              have h := hslot [] (m0 + (j : Int)) T w' ((rs.take j).flatMap F) (by rw [hCs]; rfl) (by rw [hCs]; simp) (by simp) (hstp j hj).2.2.1 (hstp j hj).2.2.2 h1 (by simpa using h2)
              have e1 : (slotO C.rk sl (m0 + (j : Int))).map (fun q => ([] : List (List Int)) ++ q) = F (m0 + (j : Int)) := by rw [hCr, hF]; simp
              rw [e1, hCB] at h
              exact h
            have HCALL := Lib.hid hcall
            have HCST := Lib.hid hcst
            have HSTP := Lib.hid hstp
            have HEND := Lib.hid hend
            have HGET := Lib.hid hget
            have HALL := Lib.hid hall
            have xlo := HLP0.out.lc 0 (Nat.le_refl _) (Nat.zero_le _)
            rw [List.drop_zero, ← hm0] at xlo
            have b2 := HLP0.out.box.c2
            have p1 : (0 < N1) = True := eq_true (by have := HN1.out; omega)
            have p2 : ((0 : Int) < (N1 : Int)) = True := eq_true (by have := HN1.out; omega)
            have HJ0 := Lib.hid hj0
            have HINV := Lib.hid hinv
            have HM1 := Lib.hid hm1
            clear hsok hrkb hok hslot hCs hCr hCB hcst hlb hhb hnl hF hrs hall hcount hget hstp hend hcall hj0 hinv hm0 hm1 hC hmn HLP0
            go_wp2_with (fail)
            go_loopg [9] rs.length (fun kq v9 wz => ∃ (j : Nat) (T' : Nat → Prop), kq + j = rs.length ∧ v9 = .int .i64 (m0 + (j : Int)) ∧ Aside0 (J T' ((rs.take j).flatMap F) wz) ∧ Aside0 (Inv C T' wz (List.replicate sl.length [])))
            case atStart => exact ⟨0, _, rfl, by simp, ⟨by simpa using HJ0.out⟩, ⟨HINV.out⟩⟩
            case round =>
              clear HJ0 HINV b2 xlo p1 p2
              obtain ⟨j, T', hkj, rfl, HJ, HI⟩ := hrel
              obtain ⟨b3, xhi⟩ := HCST.out _ _ _ HI.out
              rw [← HM1.out] at xhi
              by_cases hjl : j < rs.length
              · obtain ⟨g1, g2, g3, g4⟩ := HSTP.out j hjl
                have hca := HCALL.out j T' _ hjl HJ.out HI.out
                obtain ⟨rj, hrj⟩ : ∃ rj : Int, rj = m0 + (j : Int) := ⟨_, rfl⟩
                rw [← hrj] at g1 g2 hca ⊢
                have d1 : decide (rj ≤ m1) = true := decide_eq_true g1
                have HCA := Lib.hid hca
                have G2 := Lib.hid g2
                have HRJ := Lib.hid hrj
                have HKJ := Lib.hid hkj
                have HJL := Lib.hid hjl
                clear g1 g2 g3 g4 hrj hkj hjl hca HJ HI
                go_wp2_with (fail)
                refine HCA.out.mono ?_
                rintro e W3 ⟨b, T3, rfl, hres, hinv⟩
                have HRES := Lib.hid hres
                have HI5 := Lib.hid hinv
                clear hres hinv
                cases b with
                | true =>
                  go_wp2
                  go_roundg (rs.length - (j + 1))
                  case measure => have := HKJ.out; have := HJL.out; omega
                  case rel =>
                    refine ⟨j + 1, T3, by have := HKJ.out; have := HJL.out; omega, by rw [G2.out], ⟨?_⟩, ⟨HI5.out⟩⟩
                    rw [flat_take rs F j HJL.out, HGET.out j HJL.out, ← HRJ.out]
                    have h9 := (show Res J Jx ([] ++ (rs.take j).flatMap F) (F rj) true T3 W3 from HRES.out).thru
                    simpa using h9
                | false =>
                  have hr9 := (show Res J Jx ([] ++ (rs.take j).flatMap F) (F rj) false T3 W3 from HRES.out).stop (rest := (rs.drop (j + 1)).flatMap F)
                  rw [HRJ.out, ← HGET.out j HJL.out, ← flat_all rs F j HJL.out, ← HALL.out] at hr9
                  have HR9 := Lib.hid hr9
                  clear hr9
                  go_wp2
                  refine bodyPost_ret (results_none rfl _ _ _) rfl ?_
                  rcases HR9.out with ⟨hb, _⟩ | ⟨_, k, hk, hx⟩
                  · cases hb
                  · exact ⟨⟨_, rfl⟩, .inr ⟨T3, _, ⟨k, hk, rfl⟩, by simpa using hx⟩⟩
              · obtain ⟨rj, hrj⟩ : ∃ rj : Int, rj = m0 + (j : Int) := ⟨_, rfl⟩
                have hje : j = rs.length := by omega
                have hend := HEND.out
                rw [← hje, ← hrj] at hend
                rw [← hrj]
                have d1 : decide (rj ≤ m1) = false := decide_eq_false (by omega)
                have hfin : J T' (allO vars bv bl bi) wr := by
                  have h1 := HJ.out
                  rw [hje, List.take_of_length_le (Nat.le_refl _), ← HALL.out] at h1
                  exact h1
                have HFIN := Lib.hid hfin
                clear hfin hrj hje hjl hkj hend
                go_wp2
                go_end0
                exact ⟨⟨_, rfl⟩, .inl ⟨T', _, rfl, HFIN.out⟩⟩
end Go.Proofs.Ytgcdeablfoomhaa.PAll
