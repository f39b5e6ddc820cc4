/- Lemmas and walks of one claim, packed into one text by a program (wip/shake.py). -/
import Derived.Shelf.Abstract
import Derived.Test.YtgcdeablfoomhaaSt2
section
set_option linter.unusedVariables false
set_option linter.unusedSimpArgs false
namespace Go.Proofs.Ytgcdeablfoomhaa.PAll
open Go.RowKit Go.Proofs.YtgcdeablfoomhaaW.PrintWords Go.Proofs.YtgcdeablfoomhaaW.PrintLast Go.Proofs.YtgcdeablfoomhaaW.PrintMore
theorem tab31_6 : rtab .any (opsOf Try.f31 6) = (true, [([], []), ([], []), ([1], [1]), ([2], [2]), ([3], [3]), ([], []), ([5], [5]), ([6], [6]), ([7], [7]), ([4, 8], [4, 8]), ([0, 0, 1, 2, 3, 4, 5, 6, 7, 8, 9], [0]), ([10, 0, 1, 2, 3, 4, 5, 6, 7, 8, 9], [10]), ([11, 9, 9, 0, 1, 2, 3, 4, 5, 6, 7, 8, 9], [9, 11])]) := by kernel_rfl
theorem bits31_6 : waitsOk (true, [([], []), ([], []), ([1], [1]), ([2], [2]), ([3], [3]), ([], []), ([5], [5]), ([6], [6]), ([7], [7]), ([4, 8], [4, 8]), ([0, 0, 1, 2, 3, 4, 5, 6, 7, 8, 9], [0]), ([10, 0, 1, 2, 3, 4, 5, 6, 7, 8, 9], [10]), ([11, 9, 9, 0, 1, 2, 3, 4, 5, 6, 7, 8, 9], [9, 11])]).2 [0, 0, 2, 6, 14, 0, 32, 96, 224, 510, 1023, 2047, 4095] = true := by decide +kernel
theorem tab31_10 : rtab .any (opsOf Try.f31 10) = (true, [([], []), ([], []), ([1], [1]), ([2], [2]), ([3], [3]), ([], []), ([5], [5]), ([], []), ([7], [7]), ([6, 8], [6, 8]), ([9], [9]), ([4, 10], [4, 10]), ([0, 0, 1, 2, 3, 4, 5, 6, 7, 8, 9, 10, 11], [0]), ([12, 0, 1, 2, 3, 4, 5, 6, 7, 8, 9, 10, 11], [12]), ([13, 11, 11, 0, 1, 2, 3, 4, 5, 6, 7, 8, 9, 10, 11], [11, 13])]) := by kernel_rfl
theorem bits31_10 : waitsOk (true, [([], []), ([], []), ([1], [1]), ([2], [2]), ([3], [3]), ([], []), ([5], [5]), ([], []), ([7], [7]), ([6, 8], [6, 8]), ([9], [9]), ([4, 10], [4, 10]), ([0, 0, 1, 2, 3, 4, 5, 6, 7, 8, 9, 10, 11], [0]), ([12, 0, 1, 2, 3, 4, 5, 6, 7, 8, 9, 10, 11], [12]), ([13, 11, 11, 0, 1, 2, 3, 4, 5, 6, 7, 8, 9, 10, 11], [11, 13])]).2 [0, 0, 2, 6, 14, 0, 32, 0, 128, 480, 992, 2046, 4095, 8191, 16383] = true := by decide +kernel
theorem tab31_12 : rtab .any (opsOf Try.f31 12) = (true, [([], []), ([], []), ([1], [1]), ([2], [2]), ([3], [3]), ([], []), ([5], [5]), ([6], [6]), ([7], [7]), ([4, 8], [4, 8]), ([0, 0, 1, 2, 3, 4, 5, 6, 7, 8, 9], [0]), ([10, 0, 1, 2, 3, 4, 5, 6, 7, 8, 9], [10]), ([11, 9, 9, 0, 1, 2, 3, 4, 5, 6, 7, 8, 9], [9, 11])]) := by kernel_rfl
theorem bits31_12 : waitsOk (true, [([], []), ([], []), ([1], [1]), ([2], [2]), ([3], [3]), ([], []), ([5], [5]), ([6], [6]), ([7], [7]), ([4, 8], [4, 8]), ([0, 0, 1, 2, 3, 4, 5, 6, 7, 8, 9], [0]), ([10, 0, 1, 2, 3, 4, 5, 6, 7, 8, 9], [10]), ([11, 9, 9, 0, 1, 2, 3, 4, 5, 6, 7, 8, 9], [9, 11])]).2 [0, 0, 2, 6, 14, 0, 32, 96, 224, 510, 1023, 2047, 4095] = true := by decide +kernel
theorem tab31_14 : rtab .any (opsOf Try.f31 14) = (true, [([], []), ([], []), ([], []), ([], []), ([3], [3]), ([4, 4], [4]), ([], []), ([6], [6]), ([7, 7], [7]), ([], []), ([9, 9], [9]), ([0, 0, 3, 4, 5], [0]), ([11, 0, 3, 4, 5], [11]), ([12, 5, 0, 3, 4, 5], [5, 12]), ([1, 0, 1, 3, 4, 5, 6, 7, 8, 11, 12, 13], [1]), ([14, 0, 1, 3, 4, 5, 6, 7, 8, 11, 12, 13], [14]), ([15, 8, 13, 0, 1, 3, 4, 5, 6, 7, 8, 11, 12, 13], [8, 15]), ([2, 0, 1, 2, 3, 4, 5, 6, 7, 8, 9, 10, 11, 12, 13, 14, 15, 16], [2]), ([17, 0, 1, 2, 3, 4, 5, 6, 7, 8, 9, 10, 11, 12, 13, 14, 15, 16], [17]), ([18, 10, 16, 0, 1, 2, 3, 4, 5, 6, 7, 8, 9, 10, 11, 12, 13, 14, 15, 16], [10, 18])]) := by kernel_rfl
theorem bits31_14 : waitsOk (true, [([], []), ([], []), ([], []), ([], []), ([3], [3]), ([4, 4], [4]), ([], []), ([6], [6]), ([7, 7], [7]), ([], []), ([9, 9], [9]), ([0, 0, 3, 4, 5], [0]), ([11, 0, 3, 4, 5], [11]), ([12, 5, 0, 3, 4, 5], [5, 12]), ([1, 0, 1, 3, 4, 5, 6, 7, 8, 11, 12, 13], [1]), ([14, 0, 1, 3, 4, 5, 6, 7, 8, 11, 12, 13], [14]), ([15, 8, 13, 0, 1, 3, 4, 5, 6, 7, 8, 11, 12, 13], [8, 15]), ([2, 0, 1, 2, 3, 4, 5, 6, 7, 8, 9, 10, 11, 12, 13, 14, 15, 16], [2]), ([17, 0, 1, 2, 3, 4, 5, 6, 7, 8, 9, 10, 11, 12, 13, 14, 15, 16], [17]), ([18, 10, 16, 0, 1, 2, 3, 4, 5, 6, 7, 8, 9, 10, 11, 12, 13, 14, 15, 16], [10, 18])]).2 [0, 0, 0, 0, 8, 24, 0, 64, 192, 0, 512, 57, 2105, 6201, 14843, 31227, 63995, 131071, 262143, 524287] = true := by decide +kernel
theorem tab31_18 : rtab .any (opsOf Try.f31 18) = (true, [([], []), ([0], [0]), ([1], [1]), ([2], [2]), ([], []), ([], []), ([5], [5]), ([6], [6]), ([7], [7]), ([], []), ([9], [9]), ([8, 10], [8, 10]), ([11], [11]), ([], []), ([13], [13]), ([14], [14]), ([15], [15]), ([], []), ([16, 17], [16, 17]), ([18], [18]), ([19], [19]), ([12, 20], [12, 20]), ([3, 4, 0, 1, 2, 3, 4, 5, 6, 7, 8, 9, 10, 11, 12, 13, 14, 15, 16, 17, 18, 19, 20, 21], [3, 4]), ([22, 21, 0, 1, 2, 3, 4, 5, 6, 7, 8, 9, 10, 11, 12, 13, 14, 15, 16, 17, 18, 19, 20, 21], [21, 22])]) := by kernel_rfl
theorem bits31_18 : waitsOk (true, [([], []), ([0], [0]), ([1], [1]), ([2], [2]), ([], []), ([], []), ([5], [5]), ([6], [6]), ([7], [7]), ([], []), ([9], [9]), ([8, 10], [8, 10]), ([11], [11]), ([], []), ([13], [13]), ([14], [14]), ([15], [15]), ([], []), ([16, 17], [16, 17]), ([18], [18]), ([19], [19]), ([12, 20], [12, 20]), ([3, 4, 0, 1, 2, 3, 4, 5, 6, 7, 8, 9, 10, 11, 12, 13, 14, 15, 16, 17, 18, 19, 20, 21], [3, 4]), ([22, 21, 0, 1, 2, 3, 4, 5, 6, 7, 8, 9, 10, 11, 12, 13, 14, 15, 16, 17, 18, 19, 20, 21], [21, 22])]).2 [0, 1, 3, 7, 0, 0, 32, 96, 224, 0, 512, 2016, 4064, 0, 8192, 24576, 57344, 0, 253952, 516096, 1040384, 2097120, 4194303, 8388607] = true := by decide +kernel
theorem tab31_19 : rtab .any (opsOf Try.f31 19) = (true, [([], []), ([0], [0]), ([1], [1]), ([2], [2]), ([], []), ([], []), ([5], [5]), ([6], [6]), ([7], [7]), ([], []), ([9], [9]), ([8, 10], [8, 10]), ([11], [11]), ([], []), ([13], [13]), ([14], [14]), ([15], [15]), ([], []), ([16, 17], [16, 17]), ([18], [18]), ([19], [19]), ([], []), ([21], [21]), ([22], [22]), ([23], [23]), ([24], [24]), ([20, 25], [20, 25]), ([12, 26], [12, 26]), ([3, 4, 0, 1, 2, 3, 4, 5, 6, 7, 8, 9, 10, 11, 12, 13, 14, 15, 16, 17, 18, 19, 20, 21, 22, 23, 24, 25, 26, 27], [3, 4]), ([28, 27, 0, 1, 2, 3, 4, 5, 6, 7, 8, 9, 10, 11, 12, 13, 14, 15, 16, 17, 18, 19, 20, 21, 22, 23, 24, 25, 26, 27], [27, 28])]) := by kernel_rfl
theorem bits31_19 : waitsOk (true, [([], []), ([0], [0]), ([1], [1]), ([2], [2]), ([], []), ([], []), ([5], [5]), ([6], [6]), ([7], [7]), ([], []), ([9], [9]), ([8, 10], [8, 10]), ([11], [11]), ([], []), ([13], [13]), ([14], [14]), ([15], [15]), ([], []), ([16, 17], [16, 17]), ([18], [18]), ([19], [19]), ([], []), ([21], [21]), ([22], [22]), ([23], [23]), ([24], [24]), ([20, 25], [20, 25]), ([12, 26], [12, 26]), ([3, 4, 0, 1, 2, 3, 4, 5, 6, 7, 8, 9, 10, 11, 12, 13, 14, 15, 16, 17, 18, 19, 20, 21, 22, 23, 24, 25, 26, 27], [3, 4]), ([28, 27, 0, 1, 2, 3, 4, 5, 6, 7, 8, 9, 10, 11, 12, 13, 14, 15, 16, 17, 18, 19, 20, 21, 22, 23, 24, 25, 26, 27], [27, 28])]).2 [0, 1, 3, 7, 0, 0, 32, 96, 224, 0, 512, 2016, 4064, 0, 8192, 24576, 57344, 0, 253952, 516096, 1040384, 0, 2097152, 6291456, 14680064, 31457280, 67100672, 134217696, 268435455, 536870911] = true := by decide +kernel
/-- How a range over a box's states ends. -/
def AllPost (J Jx : (Nat → Prop) → List (List (List Int)) → World → Prop) (vars : List S48) (bv bl bi : Int) (e : Ending) (W' : World) : Prop :=
  (∃ v, e = .returned v) ∧ ((∃ T xs, xs = allO vars bv bl bi ∧ J T xs W') ∨ (∃ T pre, (∃ k, k < (allO vars bv bl bi).length ∧ pre = (allO vars bv bl bi).take (k + 1)) ∧ Jx T pre W'))
theorem boxV_ne {α : Type} {d : Kd α} {e y : Nat} {W : World} {vd : S48} {base : Nat} {ok : Nat → Prop} {v : Value} {xs : List α} (h : d.R e W base ok v xs) (hb : BoxV W y vd) (hte : (48 : Nat) ≠ e) : some y ≠ v.ownBlock := by
  intro he
  obtain ⟨inner, ho⟩ := Kd.R_own h
  obtain ⟨cells, hc⟩ := own_typed ho y he.symm
  rw [show W.heap[y]? = _ from hb] at hc
  injection hc with hc
  injection hc with _ h2
  exact hte h2
theorem take_map_succ {vars : List S48} {bl : Int} {i : Nat} (h : i < vars.length) (v : S48) (hv : v = vars[i]) : (vars.take (i + 1)).map (slotOf bl) = (vars.take i).map (slotOf bl) ++ [slotOf bl v] := by
  rw [List.take_succ_eq_append_getElem h, List.map_append, hv]; rfl
set_option maxRecDepth 100000 in
set_option maxHeartbeats 16000000 in
theorem all_setup (vars : List S48) (bv bl bi : Int) (A0 : Option Addr) (c0 : Nat) (Bv Bb l : Nat) (W : World) (hvB : validB vars bv bl bi = true)
    (hv : W.cell? ⟨Bv, 0, none⟩ = some (.slice A0 vars.length c0)) (hc0 : vars.length ≤ c0) (hr : Kd.C k48 W A0 vars.length vars)
    (hb0 : W.cell? ⟨Bb, 0, none⟩ = some (.int .i64 bv)) (hb1 : W.cell? ⟨Bb, 1, none⟩ = some (.int .i64 bl)) (hb2 : W.cell? ⟨Bb, 2, none⟩ = some (.int .i64 bi)) (J Jx : (Nat → Prop) → List (List (List Int)) → World → Prop) (hJ : Abide J) (hJx : Abide Jx) (hY : ∀ C : Cx, C.l = l → YieldC C (allO vars bv bl bi) J Jx) (h0 : J (fun _ => False) [] W) :
    Calls Try.prog 31 #[.func (.yield l) #[] #[], .pointer (some ⟨Bv, 0, none⟩), .pointer (some ⟨Bb, 0, none⟩)] W (AllPost J Jx vars bv bl bi) := by
  have H0 := Lib.hid h0
  clear h0
  obtain ⟨kv, hkv⟩ := valid_f vars bv bl bi
  rw [hvB] at hkv
  have hlen : vars.length ≤ 32 := by
    unfold validB at hvB
    simp only [Bool.and_eq_true, decide_eq_true_eq] at hvB
    exact hvB.1.1
  have hbv : 0 ≤ bv ∧ bv ≤ 1000 := by
    unfold validB okB at hvB
    simp only [Bool.and_eq_true, decide_eq_true_eq] at hvB
    exact hvB.1.2.1.1
  obtain ⟨M, hM⟩ : ∃ M, M = W.heap.size := ⟨_, rfl⟩
  have HMW := Lib.hid hM
  have HR := Lib.hid hr
  have HKV := Lib.hid hkv
  have HBV := Lib.hid hv
  have HBB := Lib.hid (And.intro hb0 (And.intro hb1 hb2))
  clear hr hkv hM
  go_enter Try.func31, Try.ntmps31
  go_wp2_with (fail)
  refine (enumerate_valid.calls kv A0 c0 vars bv bl bi true W HR.out hc0 HKV.out).mono ?_
  rintro e w1 ⟨rfl, hb⟩
  have hx0 := (hb.cell (World.block_lt_of_cell? _ _ hb0)).trans hb0
  clear hv hb0 hb1 hb2
  have HB1 := Lib.hid hb
  clear hb
  go_upto_region 2 with (fail)
  obtain ⟨rk, hrke⟩ : ∃ rk : Int, rk = 2 * bv := ⟨_, rfl⟩
  rw [← hrke]
  have HRK := Lib.hid hrke
  clear hrke
  obtain ⟨B, hB⟩ : ∃ B, B = w1.heap.size := ⟨_, rfl⟩
  obtain ⟨w2, hw2⟩ : ∃ w2, w2 = w1.alloc (.cells #[nil3, .int .i64 rk, nil3, nil3, nil3, .func (.yield l) #[] #[]] 60) := ⟨_, rfl⟩
  rw [← hw2, ← hB]
  have hbs : BoxS w2 B nil3 rk nil3 nil3 nil3 l := by rw [hw2, hB]; exact World.alloc_heap_new w1 _
  have hbb : Below W.heap.size W w2 := by rw [hw2]; exact HB1.out.trans ((below_alloc (Below.refl _ _) _).mono HB1.out.size)
  have hMB : M ≤ B := by rw [hB, HMW.out]; exact HB1.out.size
  have hxv := (hbb.cell (World.block_lt_of_cell? _ _ HBV.out)).trans HBV.out
  have HBS := Lib.hid hbs
  have HB := Lib.hid hbb
  have HMB := Lib.hid hMB
  clear hbs hbb hMB hw2 hB hx0 HB1
  go_wp2_with (fail)
  clear hxv
  go_loopg [22] vars.length (fun kq v22 wr => ∃ (i : Nat) (v0 : Value), kq + i = vars.length ∧ v22 = .int .i64 i ∧ Aside0 (k62.R 62 wr M (fun _ => True) v0 ((vars.take i).map (slotOf bl))) ∧ Aside0 (BoxS wr B v0 rk nil3 nil3 nil3 l) ∧ Aside0 (Below W.heap.size W wr))
  case atStart => exact ⟨0, nil3, rfl, rfl, ⟨Kd.R_nil _ _ _ _ _⟩, ⟨HBS.out⟩, ⟨HB.out⟩⟩
  case round =>
    clear HBS HB
    obtain ⟨i, v0, hik, rfl, HV, HBS, HB⟩ := hrel
    by_cases hi : i < vars.length
    · have hi1 : decide ((i : Int) < (vars.length : Int)) = true := decide_eq_true (by omega)
      have hid : decide (i < vars.length) = true := decide_eq_true hi
      have hacl : ((vars.take i).map (slotOf bl)).length ≤ 40 := by rw [List.length_map, List.length_take]; omega
      obtain ⟨acc, hacc⟩ : ∃ acc, acc = (vars.take i).map (slotOf bl) := ⟨_, rfl⟩
      rw [← hacc] at HV hacl
      obtain ⟨A1, c1, e1⟩ := Kd.R_slice HV.out
      subst e1
      obtain ⟨ad, hA, hx0, hx1, hx2⟩ := at_T48 (Kd.C_below HR.out HB.out) (i : Int) (by omega) (by omega)
      subst hA
      have p1 : (0 ≤ (i : Int)) = True := eq_true (by omega)
      have p2 : ((i : Int) < (vars.length : Int)) = True := eq_true (by omega)
      have p3 : (i < vars.length) = True := eq_true hi
      obtain ⟨vd, hvd⟩ : ∃ vd, vd = rd_T48 vars (i : Int) := ⟨_, rfl⟩
      rw [← hvd] at hx0 hx1 hx2
      simp only [Int.toNat_natCast] at hx0 hx1 hx2
      have hvl : vd = vars[i] := by rw [hvd]; unfold rd_T48; simp [hi]
      have htk := take_map_succ (bl := bl) hi vd hvl
      rw [← hacc] at htk
      have HTK0 := Lib.hid htk
      have HACL := Lib.hid hacl
      clear hvd hvl htk hacl hacc
      go_upto_region 5 with (fail)
      obtain ⟨wa, hwa⟩ : ∃ wa, wa = wr.alloc (.cells #[.string vd.f0, .int .u8 vd.f1, .int .i64 vd.f2] 48) := ⟨_, rfl⟩
      obtain ⟨y, hy⟩ : ∃ y, y = wr.heap.size := ⟨_, rfl⟩
      rw [← hwa, ← hy]
      have hba : Below wr.heap.size wr wa := by rw [hwa]; exact below_alloc (Below.refl _ _) _
      have hbv2 : BoxV wa y vd := by rw [hwa, hy]; exact World.alloc_heap_new wr _
      have nV := Kd.R_below HV.out hba
      have nBS := HBS.out.below hba HBS.out.lt
      have nB := HB.out.trans (hba.mono HB.out.size)
      clear HV HBS HB hwa hy hba hx0 hx1 hx2
      have HV := Lib.hid nV
      have HBS := Lib.hid nBS
      have HB := Lib.hid nB
      have hx1 := hbv2.c1
      have hx2 := hbv2.c2
      have HY := Lib.hid hbv2
      clear nV nBS nB hbv2
      by_cases k1 : vd.f1 = 1
      · have k1b : (vd.f1 == 1) = true := by simpa using k1
        have htk : (vars.take (i + 1)).map (slotOf bl) = acc ++ [⟨1, 1⟩] := by rw [HTK0.out]; unfold slotOf; rw [if_pos k1]
        have HTK := Lib.hid htk
        clear htk k1 HTK0
        have hcc := HBS.out.c0
        go_wp2_with ((with_reducible refine gate_builtin (b := .append) (xs := #[.tmp 46, .tmp 48]) rfl ?_); at_builtin; refine Kd.R_append k62 (w0 := wa) M rfl (.tmp 46) (.tmp 48) 58 62 (.agg #[.int .i64 0, .int .i64 0]) 16 rfl Try.underlying58 info62 rfl (by decide) (by omega) (.slice A1 acc.length c1) acc ⟨1, 1⟩ [.int .i64 1, .int .i64 1] (fun _ => True) (fun _ => False) rfl rfl (k62_mkM _ _ _ _) (fun _ h => h.elim) (fun _ _ => trivial) HV.out (Below.refl _ _) (by have := HMW.out; have := HB.out.size; omega) (by have := HACL.out; omega) ?_; intro v2 w2 ho2 hb2 hg2 hat2; obtain ⟨A2, c2, e2⟩ := Kd.R_slice ho2; subst e2; simp only [List.length_append, List.length_cons, List.length_nil, Nat.zero_add] at ho2; have hbs2 := HBS.out.kept hg2 (boxS_ne HV.out HBS.out (by decide)); have hBw2 := HB.out.trans (hb2.mono (Nat.le_of_eq HMW.out.symm)); have HV2 := Lib.hid ho2; have HBS2 := Lib.hid hbs2; have HB2 := Lib.hid hBw2; have hc02 := hbs2.c0; have hfr2 := hbs2.fr 0; clear ho2 hb2 hg2 hat2 hbs2 hBw2 HV HBS HB)
        try go_wp2
        go_roundg (vars.length - (i + 1))
        case measure => omega
        case rel => exact ⟨i + 1, .slice A2 (acc.length + 1) c2, by omega, by go_num, ⟨by rw [HTK.out]; exact R62_set HV2.out HBS2.out⟩, ⟨HBS2.out.set0 _⟩, ⟨HB2.out.setCell (p := ⟨B, 0, none⟩) (by rw [← HMW.out]; exact HMB.out) _⟩⟩
      · have k1b : (vd.f1 == 1) = false := by simpa using k1
        by_cases k2 : vd.f1 = 2
        · have k2b : (vd.f1 == 2) = true := by simpa using k2
          have htk : (vars.take (i + 1)).map (slotOf bl) = acc ++ [⟨vd.f2, vd.f2⟩] := by rw [HTK0.out]; unfold slotOf; rw [if_neg k1, if_pos k2]
          have HTK := Lib.hid htk
          clear htk k1 k2 HTK0
          go_upto_region 10 with (fail)
          have nb : Below wa.heap.size wa wa.drew := below_drew1 (Below.refl _ _)
          obtain ⟨wd, hwd⟩ : ∃ wd, wd = wa.drew := ⟨_, rfl⟩
          rw [← hwd] at nb
          have nV := Kd.R_below HV.out nb
          have nBS := HBS.out.below nb HBS.out.lt
          have nB := HB.out.trans (nb.mono HB.out.size)
          have nx : wd.cell? ⟨y, 2, none⟩ = some (.int .i64 vd.f2) := by rw [hwd]; exact hx2
          clear HV HBS HB nb
          have HV := Lib.hid nV
          have HBS := Lib.hid nBS
          have HB := Lib.hid nB
          have HSX := Lib.hid (And.intro nBS.c0 nx)
          clear nV nBS nB nx
          have nY : BoxV wd y vd := by rw [hwd]; exact HY.out
          have HYD := Lib.hid nY
          clear nY
          refine start_ (n := 15) (S := fun w' => w'.cell? ⟨B, 0, none⟩ = some (.slice A1 (acc).length c1) ∧ w'.cell? ⟨y, 2, none⟩ = some (.int .i64 vd.f2)) (ds := [14]) #[false, false, false, false, false, false, false, false, false, false, false, false, false, false, false] (by kernel_rfl) rfl rfl (by rw [← hwd]; exact HSX.out) (fun hHeld => ?_); refine with_tabW tab31_10 bits31_10 (fun HT_ HW_ => ?_)
          rw [← hwd] at hHeld ⊢; clear hwd
          refine pure_ (i := 0) (N := some 54) (v := ?_) (a' := ?_) #[true, false, false, false, false, false, false, false, false, false, false, false, false, false, false] rfl rfl (any_of HT_.out (by kernel_rfl)) (fun _ _ _ h => h) (Or.inl ⟨by rfl, ?_⟩) ?_ ?_
          rotate_left
          · intro w'
            go_simp
            with_reducible rfl
          rotate_left
          · simp only [Act.put, List.setIfInBounds_toArray, List.set_cons_zero, List.set_cons_succ, i64_w, i32_w]
            rfl
          refine pure_ (i := 1) (N := some 55) (v := ?_) (a' := ?_) #[true, true, false, false, false, false, false, false, false, false, false, false, false, false, false] rfl rfl (any_of HT_.out (by kernel_rfl)) (fun _ _ _ h => h) (Or.inl ⟨by rfl, ?_⟩) ?_ ?_
          rotate_left
          · intro w'
            go_simp
            with_reducible rfl
          rotate_left
          · simp only [Act.put, List.setIfInBounds_toArray, List.set_cons_zero, List.set_cons_succ, i64_w, i32_w]
            rfl
          refine pure_ (i := 2) (N := some 56) (v := ?_) (a' := ?_) #[true, true, true, false, false, false, false, false, false, false, false, false, false, false, false] rfl rfl (any_of HT_.out (by kernel_rfl)) (fun _ _ _ h => h) (Or.inl ⟨by rfl, ?_⟩) ?_ ?_
          rotate_left
          · intro w'
            go_simp
            with_reducible rfl
          rotate_left
          · simp only [Act.put, List.setIfInBounds_toArray, List.set_cons_zero, List.set_cons_succ, i64_w, i32_w]
            rfl
          refine pure_ (i := 3) (N := some 57) (v := ?_) (a' := ?_) #[true, true, true, true, false, false, false, false, false, false, false, false, false, false, false] rfl rfl (any_of HT_.out (by kernel_rfl)) (fun _ _ _ h => h) (Or.inl ⟨by rfl, ?_⟩) ?_ ?_
          rotate_left
          · intro w'
            go_simp
            with_reducible rfl
          rotate_left
          · simp only [Act.put, List.setIfInBounds_toArray, List.set_cons_zero, List.set_cons_succ, i64_w, i32_w]
            rfl
          refine take_ (i := 4) (N := some 58) (v := ?_) (a' := ?_) #[true, true, true, true, true, false, false, false, false, false, false, false, false, false, false] rfl rfl (take_ofW HT_.out HW_.out (by kernel_rfl)) (fun _ _ _ h => h) (Or.inl ⟨by rfl, ?_⟩) hHeld ?_ ?_
          rotate_left
          · rintro w' ⟨s0, s1⟩
            go_simp
            with_reducible rfl
          rotate_left
          · simp only [Act.put, List.setIfInBounds_toArray, List.set_cons_zero, List.set_cons_succ, i64_w, i32_w]
            rfl
          refine pure_ (i := 5) (N := some 59) (v := ?_) (a' := ?_) #[true, true, true, true, true, true, false, false, false, false, false, false, false, false, false] rfl rfl (any_of HT_.out (by kernel_rfl)) (fun _ _ _ h => h) (Or.inl ⟨by rfl, ?_⟩) ?_ ?_
          rotate_left
          · intro w'
            go_simp
            with_reducible rfl
          rotate_left
          · simp only [Act.put, List.setIfInBounds_toArray, List.set_cons_zero, List.set_cons_succ, i64_w, i32_w]
            rfl
          refine take_ (i := 6) (N := some 60) (v := ?_) (a' := ?_) #[true, true, true, true, true, true, true, false, false, false, false, false, false, false, false] rfl rfl (take_ofW HT_.out HW_.out (by kernel_rfl)) (fun _ _ _ h => h) (Or.inl ⟨by rfl, ?_⟩) hHeld ?_ ?_
          rotate_left
          · rintro w' ⟨s0, s1⟩
            go_simp
            with_reducible rfl
          rotate_left
          · simp only [Act.put, List.setIfInBounds_toArray, List.set_cons_zero, List.set_cons_succ, i64_w, i32_w]
            rfl
          refine pure_ (i := 7) (N := some 61) (v := ?_) (a' := ?_) #[true, true, true, true, true, true, true, true, false, false, false, false, false, false, false] rfl rfl (any_of HT_.out (by kernel_rfl)) (fun _ _ _ h => h) (Or.inl ⟨by rfl, ?_⟩) ?_ ?_
          rotate_left
          · intro w'
            go_simp
            with_reducible rfl
          rotate_left
          · simp only [Act.put, List.setIfInBounds_toArray, List.set_cons_zero, List.set_cons_succ, i64_w, i32_w]
            rfl
          refine take_ (i := 8) (N := some 62) (v := ?_) (a' := ?_) #[true, true, true, true, true, true, true, true, true, false, false, false, false, false, false] rfl rfl (take_ofW HT_.out HW_.out (by kernel_rfl)) (fun _ _ _ h => h) (Or.inl ⟨by rfl, ?_⟩) hHeld ?_ ?_
          rotate_left
          · rintro w' ⟨s0, s1⟩
            go_simp
            with_reducible rfl
          rotate_left
          · simp only [Act.put, List.setIfInBounds_toArray, List.set_cons_zero, List.set_cons_succ, i64_w, i32_w]
            rfl
          refine pure_ (i := 9) (N := some 63) (v := ?_) (a' := ?_) #[true, true, true, true, true, true, true, true, true, true, false, false, false, false, false] rfl rfl (any_of HT_.out (by kernel_rfl)) (fun _ _ _ h => h) (Or.inl ⟨by rfl, ?_⟩) ?_ ?_
          rotate_left
          · intro w'
            go_simp
            with_reducible rfl
          rotate_left
          · simp only [Act.put, List.setIfInBounds_toArray, List.set_cons_zero, List.set_cons_succ, i64_w, i32_w]
            rfl
          refine one_ (i := 10) (N := some 64) #[true, true, true, true, true, true, true, true, true, true, true, false, false, false, false] rfl rfl (one_of HT_.out (by kernel_rfl)) (by decide) (fun K hK => ?_)
          refine value_ (w1 := ?_) (v := ?_) (by rfl) rfl ?_ ?_
          rotate_left 2
          · go_simp
            constructor
            · rfl
            · rfl
          refine hK.out _ _ ⟨(World.cell?_alloc_lt _ _ _ (World.block_lt_of_cell? _ _ HSX.out.1)).trans HSX.out.1, (World.cell?_alloc_lt _ _ _ (World.block_lt_of_cell? _ _ HSX.out.2)).trans HSX.out.2⟩ (fun hHeld => ?_)
          clear hK K
          refine norm_ (a' := ?_) ?_ ?_
          rotate_left
          · show Act.put _ (some 64) _ = _
            simp only [Act.put, List.setIfInBounds_toArray, List.set_cons_zero, List.set_cons_succ, i64_w, i32_w]
            rfl
          refine one_ (i := 11) (N := some 65) #[true, true, true, true, true, true, true, true, true, true, true, true, false, false, false] rfl rfl (one_of HT_.out (by kernel_rfl)) (by decide) (fun K hK => ?_)
          refine Kd.R_append_step k62 (w0 := wd) M (by rfl) (.tmp 58) (.tmp 64) 58 62 (.agg #[.int .i64 0, .int .i64 0]) 16 rfl Try.underlying58 info62 rfl (by decide) (by omega) (.slice A1 (acc).length c1) (acc) ⟨vd.f2, vd.f2⟩ [.int .i64 vd.f2, .int .i64 vd.f2] (fun _ => True) (fun _ => False) rfl rfl (k62_mkM _ _ _ _) (fun _ h => h.elim) (fun _ _ => trivial) HV.out (Below.refl _ _) (by have := HMW.out; have := HB.out.size; omega) (by have := HACL.out; omega) ?_
          intro v2 w2 ho2 hb2 hg2 hat2
          obtain ⟨A2, c2, e2⟩ := Kd.R_slice ho2
          subst e2
          simp only [List.length_append, List.length_cons, List.length_nil, Nat.zero_add] at ho2
          have hbs2 := HBS.out.kept hg2 (boxS_ne HV.out HBS.out (by decide))
          have hx2 : w2.cell? ⟨y, 2, none⟩ = some (.int .i64 vd.f2) := (World.cell?_of_block (a := ⟨y, 2, none⟩) (hg2.block y HYD.out.lt (boxV_ne HV.out HYD.out (by decide)))).trans HSX.out.2
          have hBw2 := HB.out.trans (hb2.mono (Nat.le_of_eq HMW.out.symm))
          have HV2 := Lib.hid ho2
          have HBS2 := Lib.hid hbs2
          have HB2 := Lib.hid hBw2
          have hc02 := hbs2.c0
          clear ho2 hb2 hg2 hat2 hbs2 hBw2 HV HBS HB HSX
          refine hK.out _ _ ⟨hc02, hx2⟩ (fun hHeld => ?_)
          clear hK K
          refine norm_ (a' := ?_) ?_ ?_
          rotate_left
          · show Act.put _ (some 65) _ = _
            simp only [Act.put, List.setIfInBounds_toArray, List.set_cons_zero, List.set_cons_succ, i64_w, i32_w]
            rfl
          refine pure_ (i := 12) (N := some 66) (v := ?_) (a' := ?_) #[true, true, true, true, true, true, true, true, true, true, true, true, true, false, false] rfl rfl (any_of HT_.out (by kernel_rfl)) (fun _ _ _ h => h) (Or.inl ⟨by rfl, ?_⟩) ?_ ?_
          rotate_left
          · intro w'
            go_simp
            with_reducible rfl
          rotate_left
          · simp only [Act.put, List.setIfInBounds_toArray, List.set_cons_zero, List.set_cons_succ, i64_w, i32_w]
            rfl
          refine pure_ (i := 13) (N := some 67) (v := ?_) (a' := ?_) #[true, true, true, true, true, true, true, true, true, true, true, true, true, true, false] rfl rfl (any_of HT_.out (by kernel_rfl)) (fun _ _ _ h => h) (Or.inl ⟨by rfl, ?_⟩) ?_ ?_
          rotate_left
          · intro w'
            go_simp
            with_reducible rfl
          rotate_left
          · simp only [Act.put, List.setIfInBounds_toArray, List.set_cons_zero, List.set_cons_succ, i64_w, i32_w]
            rfl
          refine last_ (i := 14) (N := none) #[true, true, true, true, true, true, true, true, true, true, true, true, true, true, true] rfl rfl (one_of HT_.out (by kernel_rfl)) (by decide) (fun K hK => ?_)
          have hfr := HBS2.out.fr 0
          have hcc := HBS2.out.c0
          refine skip_ (w1 := ?_) (by rfl) rfl ?_ ?_
          rotate_left
          · go_simp
            rfl
          refine hK.out _ _ ?_
          clear hfr hcc
          clear hK K
          refine done_ (done_of HT_.out (by kernel_rfl)) ?_
          try go_wp2
          go_roundg (vars.length - (i + 1))
          case measure => omega
          case rel => exact ⟨i + 1, .slice A2 (acc.length + 1) c2, by omega, by go_num, ⟨by rw [HTK.out]; exact R62_set HV2.out HBS2.out⟩, ⟨HBS2.out.set0 _⟩, ⟨HB2.out.setCell (p := ⟨B, 0, none⟩) (by rw [← HMW.out]; exact HMB.out) _⟩⟩
        · have k2b : (vd.f1 == 2) = false := by simpa using k2
          have htk : (vars.take (i + 1)).map (slotOf bl) = acc ++ [⟨0, bl⟩] := by rw [HTK0.out]; unfold slotOf; rw [if_neg k1, if_neg k2]
          have HTK := Lib.hid htk
          clear htk k1 k2 HTK0
          have hxl := (HB.out.cell (World.block_lt_of_cell? _ _ HBB.out.2.1)).trans HBB.out.2.1
          go_upto_region 6 with (fail)
          have nb : Below wa.heap.size wa wa.drew := below_drew1 (Below.refl _ _)
          obtain ⟨wd, hwd⟩ : ∃ wd, wd = wa.drew := ⟨_, rfl⟩
          rw [← hwd] at nb
          have nV := Kd.R_below HV.out nb
          have nBS := HBS.out.below nb HBS.out.lt
          have nB := HB.out.trans (nb.mono HB.out.size)
          have nx : wd.cell? ⟨Bb, 1, none⟩ = some (.int .i64 bl) := by rw [hwd]; exact hxl
          clear HV HBS HB nb
          have HV := Lib.hid nV
          have HBS := Lib.hid nBS
          have HB := Lib.hid nB
          have HSX := Lib.hid (And.intro nBS.c0 nx)
          clear nV nBS nB nx
          refine start_ (n := 13) (S := fun w' => w'.cell? ⟨B, 0, none⟩ = some (.slice A1 (acc).length c1) ∧ w'.cell? ⟨Bb, 1, none⟩ = some (.int .i64 bl)) (ds := [12]) #[false, false, false, false, false, false, false, false, false, false, false, false, false] (by kernel_rfl) rfl rfl (by rw [← hwd]; exact HSX.out) (fun hHeld => ?_); refine with_tabW tab31_6 bits31_6 (fun HT_ HW_ => ?_)
          rw [← hwd] at hHeld ⊢; clear hwd
          refine pure_ (i := 0) (N := some 28) (v := ?_) (a' := ?_) #[true, false, false, false, false, false, false, false, false, false, false, false, false] rfl rfl (any_of HT_.out (by kernel_rfl)) (fun _ _ _ h => h) (Or.inl ⟨by rfl, ?_⟩) ?_ ?_
          rotate_left
          · intro w'
            go_simp
            with_reducible rfl
          rotate_left
          · simp only [Act.put, List.setIfInBounds_toArray, List.set_cons_zero, List.set_cons_succ, i64_w, i32_w]
            rfl
          refine pure_ (i := 1) (N := some 29) (v := ?_) (a' := ?_) #[true, true, false, false, false, false, false, false, false, false, false, false, false] rfl rfl (any_of HT_.out (by kernel_rfl)) (fun _ _ _ h => h) (Or.inl ⟨by rfl, ?_⟩) ?_ ?_
          rotate_left
          · intro w'
            go_simp
            with_reducible rfl
          rotate_left
          · simp only [Act.put, List.setIfInBounds_toArray, List.set_cons_zero, List.set_cons_succ, i64_w, i32_w]
            rfl
          refine pure_ (i := 2) (N := some 30) (v := ?_) (a' := ?_) #[true, true, true, false, false, false, false, false, false, false, false, false, false] rfl rfl (any_of HT_.out (by kernel_rfl)) (fun _ _ _ h => h) (Or.inl ⟨by rfl, ?_⟩) ?_ ?_
          rotate_left
          · intro w'
            go_simp
            with_reducible rfl
          rotate_left
          · simp only [Act.put, List.setIfInBounds_toArray, List.set_cons_zero, List.set_cons_succ, i64_w, i32_w]
            rfl
          refine pure_ (i := 3) (N := some 31) (v := ?_) (a' := ?_) #[true, true, true, true, false, false, false, false, false, false, false, false, false] rfl rfl (any_of HT_.out (by kernel_rfl)) (fun _ _ _ h => h) (Or.inl ⟨by rfl, ?_⟩) ?_ ?_
          rotate_left
          · intro w'
            go_simp
            with_reducible rfl
          rotate_left
          · simp only [Act.put, List.setIfInBounds_toArray, List.set_cons_zero, List.set_cons_succ, i64_w, i32_w]
            rfl
          refine take_ (i := 4) (N := some 32) (v := ?_) (a' := ?_) #[true, true, true, true, true, false, false, false, false, false, false, false, false] rfl rfl (take_ofW HT_.out HW_.out (by kernel_rfl)) (fun _ _ _ h => h) (Or.inl ⟨by rfl, ?_⟩) hHeld ?_ ?_
          rotate_left
          · rintro w' ⟨s0, s1⟩
            go_simp
            with_reducible rfl
          rotate_left
          · simp only [Act.put, List.setIfInBounds_toArray, List.set_cons_zero, List.set_cons_succ, i64_w, i32_w]
            rfl
          refine pure_ (i := 5) (N := some 33) (v := ?_) (a' := ?_) #[true, true, true, true, true, true, false, false, false, false, false, false, false] rfl rfl (any_of HT_.out (by kernel_rfl)) (fun _ _ _ h => h) (Or.inl ⟨by rfl, ?_⟩) ?_ ?_
          rotate_left
          · intro w'
            go_simp
            with_reducible rfl
          rotate_left
          · simp only [Act.put, List.setIfInBounds_toArray, List.set_cons_zero, List.set_cons_succ, i64_w, i32_w]
            rfl
          refine take_ (i := 6) (N := some 34) (v := ?_) (a' := ?_) #[true, true, true, true, true, true, true, false, false, false, false, false, false] rfl rfl (take_ofW HT_.out HW_.out (by kernel_rfl)) (fun _ _ _ h => h) (Or.inl ⟨by rfl, ?_⟩) hHeld ?_ ?_
          rotate_left
          · rintro w' ⟨s0, s1⟩
            go_simp
            with_reducible rfl
          rotate_left
          · simp only [Act.put, List.setIfInBounds_toArray, List.set_cons_zero, List.set_cons_succ, i64_w, i32_w]
            rfl
          refine pure_ (i := 7) (N := some 35) (v := ?_) (a' := ?_) #[true, true, true, true, true, true, true, true, false, false, false, false, false] rfl rfl (any_of HT_.out (by kernel_rfl)) (fun _ _ _ h => h) (Or.inl ⟨by rfl, ?_⟩) ?_ ?_
          rotate_left
          · intro w'
            go_simp
            with_reducible rfl
          rotate_left
          · simp only [Act.put, List.setIfInBounds_toArray, List.set_cons_zero, List.set_cons_succ, i64_w, i32_w]
            rfl
          refine one_ (i := 8) (N := some 36) #[true, true, true, true, true, true, true, true, true, false, false, false, false] rfl rfl (one_of HT_.out (by kernel_rfl)) (by decide) (fun K hK => ?_)
          refine value_ (w1 := ?_) (v := ?_) (by rfl) rfl ?_ ?_
          rotate_left 2
          · go_simp
            constructor
            · rfl
            · rfl
          refine hK.out _ _ ⟨(World.cell?_alloc_lt _ _ _ (World.block_lt_of_cell? _ _ HSX.out.1)).trans HSX.out.1, (World.cell?_alloc_lt _ _ _ (World.block_lt_of_cell? _ _ HSX.out.2)).trans HSX.out.2⟩ (fun hHeld => ?_)
          clear hK K
          refine norm_ (a' := ?_) ?_ ?_
          rotate_left
          · show Act.put _ (some 36) _ = _
            simp only [Act.put, List.setIfInBounds_toArray, List.set_cons_zero, List.set_cons_succ, i64_w, i32_w]
            rfl
          refine one_ (i := 9) (N := some 37) #[true, true, true, true, true, true, true, true, true, true, false, false, false] rfl rfl (one_of HT_.out (by kernel_rfl)) (by decide) (fun K hK => ?_)
          refine Kd.R_append_step k62 (w0 := wd) M (by rfl) (.tmp 32) (.tmp 36) 58 62 (.agg #[.int .i64 0, .int .i64 0]) 16 rfl Try.underlying58 info62 rfl (by decide) (by omega) (.slice A1 (acc).length c1) (acc) ⟨0, bl⟩ [.int .i64 0, .int .i64 bl] (fun _ => True) (fun _ => False) rfl rfl (k62_mkM _ _ _ _) (fun _ h => h.elim) (fun _ _ => trivial) HV.out (Below.refl _ _) (by have := HMW.out; have := HB.out.size; omega) (by have := HACL.out; omega) ?_
          intro v2 w2 ho2 hb2 hg2 hat2
          obtain ⟨A2, c2, e2⟩ := Kd.R_slice ho2
          subst e2
          simp only [List.length_append, List.length_cons, List.length_nil, Nat.zero_add] at ho2
          have hbs2 := HBS.out.kept hg2 (boxS_ne HV.out HBS.out (by decide))
          have hx2 : w2.cell? ⟨Bb, 1, none⟩ = some (.int .i64 bl) := (hb2.cell (p := ⟨Bb, 1, none⟩) (by rw [HMW.out]; exact World.block_lt_of_cell? _ _ HBB.out.2.1)).trans HSX.out.2
          have hBw2 := HB.out.trans (hb2.mono (Nat.le_of_eq HMW.out.symm))
          have HV2 := Lib.hid ho2
          have HBS2 := Lib.hid hbs2
          have HB2 := Lib.hid hBw2
          have hc02 := hbs2.c0
          clear ho2 hb2 hg2 hat2 hbs2 hBw2 HV HBS HB HSX
          refine hK.out _ _ ⟨hc02, hx2⟩ (fun hHeld => ?_)
          clear hK K
          refine norm_ (a' := ?_) ?_ ?_
          rotate_left
          · show Act.put _ (some 37) _ = _
            simp only [Act.put, List.setIfInBounds_toArray, List.set_cons_zero, List.set_cons_succ, i64_w, i32_w]
            rfl
          refine pure_ (i := 10) (N := some 38) (v := ?_) (a' := ?_) #[true, true, true, true, true, true, true, true, true, true, true, false, false] rfl rfl (any_of HT_.out (by kernel_rfl)) (fun _ _ _ h => h) (Or.inl ⟨by rfl, ?_⟩) ?_ ?_
          rotate_left
          · intro w'
            go_simp
            with_reducible rfl
          rotate_left
          · simp only [Act.put, List.setIfInBounds_toArray, List.set_cons_zero, List.set_cons_succ, i64_w, i32_w]
            rfl
          refine pure_ (i := 11) (N := some 39) (v := ?_) (a' := ?_) #[true, true, true, true, true, true, true, true, true, true, true, true, false] rfl rfl (any_of HT_.out (by kernel_rfl)) (fun _ _ _ h => h) (Or.inl ⟨by rfl, ?_⟩) ?_ ?_
          rotate_left
          · intro w'
            go_simp
            with_reducible rfl
          rotate_left
          · simp only [Act.put, List.setIfInBounds_toArray, List.set_cons_zero, List.set_cons_succ, i64_w, i32_w]
            rfl
          refine last_ (i := 12) (N := none) #[true, true, true, true, true, true, true, true, true, true, true, true, true] rfl rfl (one_of HT_.out (by kernel_rfl)) (by decide) (fun K hK => ?_)
          have hfr := HBS2.out.fr 0
          have hcc := HBS2.out.c0
          refine skip_ (w1 := ?_) (by rfl) rfl ?_ ?_
          rotate_left
          · go_simp
            rfl
          refine hK.out _ _ ?_
          clear hfr hcc
          clear hK K
          refine done_ (done_of HT_.out (by kernel_rfl)) ?_
          try go_wp2
          go_roundg (vars.length - (i + 1))
          case measure => omega
          case rel => exact ⟨i + 1, .slice A2 (acc.length + 1) c2, by omega, by go_num, ⟨by rw [HTK.out]; exact R62_set HV2.out HBS2.out⟩, ⟨HBS2.out.set0 _⟩, ⟨HB2.out.setCell (p := ⟨B, 0, none⟩) (by rw [← HMW.out]; exact HMB.out) _⟩⟩
    · have hi1 : decide ((i : Int) < (vars.length : Int)) = false := decide_eq_false (by omega)
      have hid : decide (i < vars.length) = false := decide_eq_false hi
      have hie : i = vars.length := by omega
      have hacl : ((vars.take i).map (slotOf bl)).length ≤ 40 := by rw [List.length_map, List.length_take]; omega
      obtain ⟨acc, hacc⟩ : ∃ acc, acc = (vars.take i).map (slotOf bl) := ⟨_, rfl⟩
      have hsl : acc ++ [⟨0, bi⟩] = slotsOf vars bl bi := by rw [hacc, hie, List.take_of_length_le (Nat.le_refl _)]; rfl
      rw [← hacc] at HV hacl
      have hal : acc.length = vars.length := by rw [hacc, hie]; simp
      obtain ⟨A1, c1, e1⟩ := Kd.R_slice HV.out
      subst e1
      have HACL := Lib.hid hacl
      have HSL := Lib.hid hsl
      have HAL := Lib.hid hal
      clear hacl hacc hsl hie hi hik hal
      have hxi := (HB.out.cell (World.block_lt_of_cell? _ _ HBB.out.2.2)).trans HBB.out.2.2
      go_upto_region 12 with (fail)
      have nb : Below wr.heap.size wr wr.drew := below_drew1 (Below.refl _ _)
      obtain ⟨wd, hwd⟩ : ∃ wd, wd = wr.drew := ⟨_, rfl⟩
      rw [← hwd] at nb
      have nV := Kd.R_below HV.out nb
      have nBS := HBS.out.below nb HBS.out.lt
      have nB := HB.out.trans (nb.mono HB.out.size)
      have nx : wd.cell? ⟨Bb, 2, none⟩ = some (.int .i64 bi) := by rw [hwd]; exact hxi
      clear HV HBS HB nb
      have HV := Lib.hid nV
      have HBS := Lib.hid nBS
      have HB := Lib.hid nB
      have HSX := Lib.hid (And.intro nBS.c0 nx)
      clear nV nBS nB nx
      refine start_ (n := 13) (S := fun w' => w'.cell? ⟨B, 0, none⟩ = some (.slice A1 (acc).length c1) ∧ w'.cell? ⟨Bb, 2, none⟩ = some (.int .i64 bi)) (ds := [12]) #[false, false, false, false, false, false, false, false, false, false, false, false, false] (by kernel_rfl) rfl rfl (by rw [← hwd]; exact HSX.out) (fun hHeld => ?_); refine with_tabW tab31_12 bits31_12 (fun HT_ HW_ => ?_)
      rw [← hwd] at hHeld ⊢; clear hwd
      refine pure_ (i := 0) (N := some 69) (v := ?_) (a' := ?_) #[true, false, false, false, false, false, false, false, false, false, false, false, false] rfl rfl (any_of HT_.out (by kernel_rfl)) (fun _ _ _ h => h) (Or.inl ⟨by rfl, ?_⟩) ?_ ?_
      rotate_left
      · intro w'
        go_simp
        with_reducible rfl
      rotate_left
      · simp only [Act.put, List.setIfInBounds_toArray, List.set_cons_zero, List.set_cons_succ, i64_w, i32_w]
        rfl
      refine pure_ (i := 1) (N := some 70) (v := ?_) (a' := ?_) #[true, true, false, false, false, false, false, false, false, false, false, false, false] rfl rfl (any_of HT_.out (by kernel_rfl)) (fun _ _ _ h => h) (Or.inl ⟨by rfl, ?_⟩) ?_ ?_
      rotate_left
      · intro w'
        go_simp
        with_reducible rfl
      rotate_left
      · simp only [Act.put, List.setIfInBounds_toArray, List.set_cons_zero, List.set_cons_succ, i64_w, i32_w]
        rfl
      refine pure_ (i := 2) (N := some 71) (v := ?_) (a' := ?_) #[true, true, true, false, false, false, false, false, false, false, false, false, false] rfl rfl (any_of HT_.out (by kernel_rfl)) (fun _ _ _ h => h) (Or.inl ⟨by rfl, ?_⟩) ?_ ?_
      rotate_left
      · intro w'
        go_simp
        with_reducible rfl
      rotate_left
      · simp only [Act.put, List.setIfInBounds_toArray, List.set_cons_zero, List.set_cons_succ, i64_w, i32_w]
        rfl
      refine pure_ (i := 3) (N := some 72) (v := ?_) (a' := ?_) #[true, true, true, true, false, false, false, false, false, false, false, false, false] rfl rfl (any_of HT_.out (by kernel_rfl)) (fun _ _ _ h => h) (Or.inl ⟨by rfl, ?_⟩) ?_ ?_
      rotate_left
      · intro w'
        go_simp
        with_reducible rfl
      rotate_left
      · simp only [Act.put, List.setIfInBounds_toArray, List.set_cons_zero, List.set_cons_succ, i64_w, i32_w]
        rfl
      refine take_ (i := 4) (N := some 73) (v := ?_) (a' := ?_) #[true, true, true, true, true, false, false, false, false, false, false, false, false] rfl rfl (take_ofW HT_.out HW_.out (by kernel_rfl)) (fun _ _ _ h => h) (Or.inl ⟨by rfl, ?_⟩) hHeld ?_ ?_
      rotate_left
      · rintro w' ⟨s0, s1⟩
        go_simp
        with_reducible rfl
      rotate_left
      · simp only [Act.put, List.setIfInBounds_toArray, List.set_cons_zero, List.set_cons_succ, i64_w, i32_w]
        rfl
      refine pure_ (i := 5) (N := some 74) (v := ?_) (a' := ?_) #[true, true, true, true, true, true, false, false, false, false, false, false, false] rfl rfl (any_of HT_.out (by kernel_rfl)) (fun _ _ _ h => h) (Or.inl ⟨by rfl, ?_⟩) ?_ ?_
      rotate_left
      · intro w'
        go_simp
        with_reducible rfl
      rotate_left
      · simp only [Act.put, List.setIfInBounds_toArray, List.set_cons_zero, List.set_cons_succ, i64_w, i32_w]
        rfl
      refine take_ (i := 6) (N := some 75) (v := ?_) (a' := ?_) #[true, true, true, true, true, true, true, false, false, false, false, false, false] rfl rfl (take_ofW HT_.out HW_.out (by kernel_rfl)) (fun _ _ _ h => h) (Or.inl ⟨by rfl, ?_⟩) hHeld ?_ ?_
      rotate_left
      · rintro w' ⟨s0, s1⟩
        go_simp
        with_reducible rfl
      rotate_left
      · simp only [Act.put, List.setIfInBounds_toArray, List.set_cons_zero, List.set_cons_succ, i64_w, i32_w]
        rfl
      refine pure_ (i := 7) (N := some 76) (v := ?_) (a' := ?_) #[true, true, true, true, true, true, true, true, false, false, false, false, false] rfl rfl (any_of HT_.out (by kernel_rfl)) (fun _ _ _ h => h) (Or.inl ⟨by rfl, ?_⟩) ?_ ?_
      rotate_left
      · intro w'
        go_simp
        with_reducible rfl
      rotate_left
      · simp only [Act.put, List.setIfInBounds_toArray, List.set_cons_zero, List.set_cons_succ, i64_w, i32_w]
        rfl
      refine one_ (i := 8) (N := some 77) #[true, true, true, true, true, true, true, true, true, false, false, false, false] rfl rfl (one_of HT_.out (by kernel_rfl)) (by decide) (fun K hK => ?_)
      refine value_ (w1 := ?_) (v := ?_) (by rfl) rfl ?_ ?_
      rotate_left 2
      · go_simp
        constructor
        · rfl
        · rfl
      refine hK.out _ _ ⟨(World.cell?_alloc_lt _ _ _ (World.block_lt_of_cell? _ _ HSX.out.1)).trans HSX.out.1, (World.cell?_alloc_lt _ _ _ (World.block_lt_of_cell? _ _ HSX.out.2)).trans HSX.out.2⟩ (fun hHeld => ?_)
      clear hK K
      refine norm_ (a' := ?_) ?_ ?_
      rotate_left
      · show Act.put _ (some 77) _ = _
        simp only [Act.put, List.setIfInBounds_toArray, List.set_cons_zero, List.set_cons_succ, i64_w, i32_w]
        rfl
      refine one_ (i := 9) (N := some 78) #[true, true, true, true, true, true, true, true, true, true, false, false, false] rfl rfl (one_of HT_.out (by kernel_rfl)) (by decide) (fun K hK => ?_)
      refine Kd.R_append_step k62 (w0 := wd) M (by rfl) (.tmp 73) (.tmp 77) 58 62 (.agg #[.int .i64 0, .int .i64 0]) 16 rfl Try.underlying58 info62 rfl (by decide) (by omega) (.slice A1 (acc).length c1) (acc) ⟨0, bi⟩ [.int .i64 0, .int .i64 bi] (fun _ => True) (fun _ => False) rfl rfl (k62_mkM _ _ _ _) (fun _ h => h.elim) (fun _ _ => trivial) HV.out (Below.refl _ _) (by have := HMW.out; have := HB.out.size; omega) (by have := HACL.out; omega) ?_
      intro v2 w2 ho2 hb2 hg2 hat2
      obtain ⟨A2, c2, e2⟩ := Kd.R_slice ho2
      subst e2
      simp only [List.length_append, List.length_cons, List.length_nil, Nat.zero_add] at ho2
      have hbs2 := HBS.out.kept hg2 (boxS_ne HV.out HBS.out (by decide))
      have hx2 : w2.cell? ⟨Bb, 2, none⟩ = some (.int .i64 bi) := (hb2.cell (p := ⟨Bb, 2, none⟩) (by rw [HMW.out]; exact World.block_lt_of_cell? _ _ HBB.out.2.2)).trans HSX.out.2
      have hBw2 := HB.out.trans (hb2.mono (Nat.le_of_eq HMW.out.symm))
      have HV2 := Lib.hid ho2
      have HBS2 := Lib.hid hbs2
      have HB2 := Lib.hid hBw2
      have hc02 := hbs2.c0
      clear ho2 hb2 hg2 hat2 hbs2 hBw2 HV HBS HB HSX
      refine hK.out _ _ ⟨hc02, hx2⟩ (fun hHeld => ?_)
      clear hK K
      refine norm_ (a' := ?_) ?_ ?_
      rotate_left
      · show Act.put _ (some 78) _ = _
        simp only [Act.put, List.setIfInBounds_toArray, List.set_cons_zero, List.set_cons_succ, i64_w, i32_w]
        rfl
      refine pure_ (i := 10) (N := some 79) (v := ?_) (a' := ?_) #[true, true, true, true, true, true, true, true, true, true, true, false, false] rfl rfl (any_of HT_.out (by kernel_rfl)) (fun _ _ _ h => h) (Or.inl ⟨by rfl, ?_⟩) ?_ ?_
      rotate_left
      · intro w'
        go_simp
        with_reducible rfl
      rotate_left
      · simp only [Act.put, List.setIfInBounds_toArray, List.set_cons_zero, List.set_cons_succ, i64_w, i32_w]
        rfl
      refine pure_ (i := 11) (N := some 80) (v := ?_) (a' := ?_) #[true, true, true, true, true, true, true, true, true, true, true, true, false] rfl rfl (any_of HT_.out (by kernel_rfl)) (fun _ _ _ h => h) (Or.inl ⟨by rfl, ?_⟩) ?_ ?_
      rotate_left
      · intro w'
        go_simp
        with_reducible rfl
      rotate_left
      · simp only [Act.put, List.setIfInBounds_toArray, List.set_cons_zero, List.set_cons_succ, i64_w, i32_w]
        rfl
      refine last_ (i := 12) (N := none) #[true, true, true, true, true, true, true, true, true, true, true, true, true] rfl rfl (one_of HT_.out (by kernel_rfl)) (by decide) (fun K hK => ?_)
      have hfr := HBS2.out.fr 0
      have hcc := HBS2.out.c0
      refine skip_ (w1 := ?_) (by rfl) rfl ?_ ?_
      rotate_left
      · go_simp
        rfl
      refine hK.out _ _ ?_
      clear hfr hcc
      clear hK K
      refine done_ (done_of HT_.out (by kernel_rfl)) ?_
      have hHG := HV2.out
      obtain ⟨G, cG, hform, hGM⟩ := R_form' hHG (by obtain ⟨g_, c_, e_, _⟩ := Kd.R_form hHG (by simp); rw [e_]; exact ⟨g_, .inr rfl⟩)
      injection hform with hf1 hf2 hf3
      clear hf2
      subst hf1
      subst hf3
      obtain ⟨n, hn⟩ : ∃ n, n = acc.length + 1 := ⟨_, rfl⟩
      rw [← hn] at hHG ⊢
      obtain ⟨sl, hsle⟩ : ∃ sl, sl = acc ++ [⟨0, bi⟩] := ⟨_, rfl⟩
      rw [← hsle] at hHG
      have hnl : sl.length = n := by rw [hsle, hn]; simp
      have hn1 : n ≤ 41 := by have := HACL.out; omega
      have hn0 : 1 ≤ n := by omega
      obtain ⟨w3, hw3⟩ : ∃ w3, w3 = w2.setCell ⟨B, 0, none⟩ (.slice (some ⟨G, 0, none⟩) n c2) := ⟨_, rfl⟩
      have FM : MkF W M B l rk (.slice (some ⟨G, 0, none⟩) n c2) sl (n + 1) n none none none nil3 nil3 nil3 w3 := by
        rw [hw3]
        exact ⟨HBS2.out.set0 _, R62_set hHG HBS2.out, HB2.out.setCell (p := ⟨B, 0, none⟩) (by rw [← HMW.out]; exact HMB.out) _, fun g hg => by simp at hg, fun g hg => by simp at hg, fun g hg => by simp at hg, fun g hg => by simp at hg⟩
      rw [← hw3]
      have HSLE := Lib.hid hsle
      have HN := Lib.hid hn
      have HNL := Lib.hid hnl
      have hc3 := FM.box.c0
      clear hHG hw3 hsle hn hnl HV2 HBS2 HB2
      go_upto_region 14 with (fail)
      obtain ⟨N1, hN1⟩ : ∃ N1, N1 = n + 1 := ⟨_, rfl⟩
      have en : wrap64 ((n : Int) + 1) = (N1 : Int) := by rw [hN1, wrap64_of' (by omega) (by omega)]; omega
      have hN1b : N1 ≤ 1000 := by omega
      have hnb : n ≤ 1000 := by omega
      have F0 := FM.drew
      rw [← hN1] at F0
      have hni : (n : Int) + 1 = (N1 : Int) := by omega
      have HNI := Lib.hid hni
      clear hni
      have HN1 := Lib.hid hN1
      clear hN1 FM hc3
      have hMBw : W.heap.size ≤ B := by rw [← HMW.out]; exact HMB.out
      refine start_ (n := 20) (S := fun _ => True) (ds := []) #[false, false, false, false, false, false, false, false, false, false, false, false, false, false, false, false, false, false, false, false] (by kernel_rfl) rfl rfl trivial (fun _ => ?_); refine with_tabW tab31_14 bits31_14 (fun HT_ HW_ => ?_)
      obtain ⟨wq0, hwq0⟩ : ∃ w, w = w3.drew := ⟨_, rfl⟩
      rw [← hwq0] at F0 ⊢
      clear hwq0
      refine pure_ (i := 0) (N := some 86) (v := ?_) (a' := ?_) #[true, false, false, false, false, false, false, false, false, false, false, false, false, false, false, false, false, false, false, false] rfl rfl (any_of HT_.out (by kernel_rfl)) (fun _ _ _ h => h) (Or.inl ⟨by rfl, ?_⟩) ?_ ?_
      rotate_left
      · intro w'
        go_simp
        with_reducible rfl
      rotate_left
      · simp only [Act.put, List.setIfInBounds_toArray, List.set_cons_zero, List.set_cons_succ, i64_w, i32_w]
        rfl
      refine pure_ (i := 1) (N := some 87) (v := ?_) (a' := ?_) #[true, true, false, false, false, false, false, false, false, false, false, false, false, false, false, false, false, false, false, false] rfl rfl (any_of HT_.out (by kernel_rfl)) (fun _ _ _ h => h) (Or.inl ⟨by rfl, ?_⟩) ?_ ?_
      rotate_left
      · intro w'
        go_simp
        with_reducible rfl
      rotate_left
      · simp only [Act.put, List.setIfInBounds_toArray, List.set_cons_zero, List.set_cons_succ, i64_w, i32_w]
        rfl
      refine pure_ (i := 2) (N := some 88) (v := ?_) (a' := ?_) #[true, true, true, false, false, false, false, false, false, false, false, false, false, false, false, false, false, false, false, false] rfl rfl (any_of HT_.out (by kernel_rfl)) (fun _ _ _ h => h) (Or.inl ⟨by rfl, ?_⟩) ?_ ?_
      rotate_left
      · intro w'
        go_simp
        with_reducible rfl
      rotate_left
      · simp only [Act.put, List.setIfInBounds_toArray, List.set_cons_zero, List.set_cons_succ, i64_w, i32_w]
        rfl
      refine pure_ (i := 3) (N := some 89) (v := ?_) (a' := ?_) #[true, true, true, true, false, false, false, false, false, false, false, false, false, false, false, false, false, false, false, false] rfl rfl (any_of HT_.out (by kernel_rfl)) (fun _ _ _ h => h) (Or.inl ⟨by rfl, ?_⟩) ?_ ?_
      rotate_left
      · intro w'
        go_simp
        with_reducible rfl
      rotate_left
      · simp only [Act.put, List.setIfInBounds_toArray, List.set_cons_zero, List.set_cons_succ, i64_w, i32_w]
        rfl
      refine pure_ (i := 4) (N := some 90) (v := ?_) (a' := ?_) #[true, true, true, true, true, false, false, false, false, false, false, false, false, false, false, false, false, false, false, false] rfl rfl (any_of HT_.out (by kernel_rfl)) (fun _ _ _ h => h) (Or.inl ⟨by rfl, ?_⟩) ?_ ?_
      rotate_left
      · intro w'
        go_simp
        with_reducible rfl
      rotate_left
      · simp only [Act.put, List.setIfInBounds_toArray, List.set_cons_zero, List.set_cons_succ, i64_w, i32_w]
        rfl
      refine pure_ (i := 6) (N := some 92) (v := ?_) (a' := ?_) #[true, true, true, true, true, false, true, false, false, false, false, false, false, false, false, false, false, false, false, false] rfl rfl (any_of HT_.out (by kernel_rfl)) (fun _ _ _ h => h) (Or.inl ⟨by rfl, ?_⟩) ?_ ?_
      rotate_left
      · intro w'
        go_simp
        with_reducible rfl
      rotate_left
      · simp only [Act.put, List.setIfInBounds_toArray, List.set_cons_zero, List.set_cons_succ, i64_w, i32_w]
        rfl
      refine pure_ (i := 7) (N := some 93) (v := ?_) (a' := ?_) #[true, true, true, true, true, false, true, true, false, false, false, false, false, false, false, false, false, false, false, false] rfl rfl (any_of HT_.out (by kernel_rfl)) (fun _ _ _ h => h) (Or.inl ⟨by rfl, ?_⟩) ?_ ?_
      rotate_left
      · intro w'
        go_simp
        with_reducible rfl
      rotate_left
      · simp only [Act.put, List.setIfInBounds_toArray, List.set_cons_zero, List.set_cons_succ, i64_w, i32_w]
        rfl
      refine pure_ (i := 9) (N := some 95) (v := ?_) (a' := ?_) #[true, true, true, true, true, false, true, true, false, true, false, false, false, false, false, false, false, false, false, false] rfl rfl (any_of HT_.out (by kernel_rfl)) (fun _ _ _ h => h) (Or.inl ⟨by rfl, ?_⟩) ?_ ?_
      rotate_left
      · intro w'
        go_simp
        with_reducible rfl
      rotate_left
      · simp only [Act.put, List.setIfInBounds_toArray, List.set_cons_zero, List.set_cons_succ, i64_w, i32_w]
        rfl
      refine join_ (σ := Nat × Nat × Nat) 0 #[true, true, true, true, true, true, true, true, true, true, true, true, true, true, true, true, true, true, true, true] (fun s => [(91, .slice (some ⟨s.1, 0, none⟩) N1 N1), (94, .slice (some ⟨s.2.1, 0, none⟩) N1 N1), (96, .slice (some ⟨s.2.2, 0, none⟩) n n), (97, .pointer (some ⟨B, 0, none⟩)), (98, .pointer (some ⟨B, 2, none⟩)), (99, .pointer (some ⟨B, 0, none⟩)), (100, .pointer (some ⟨B, 3, none⟩)), (101, .pointer (some ⟨B, 0, none⟩)), (102, .pointer (some ⟨B, 4, none⟩))]) (fun s w' => MkF W M B l rk (.slice (some ⟨G, 0, none⟩) n c2) sl N1 n (some s.1) (some s.2.1) (some s.2.2) (.slice (some ⟨s.1, 0, none⟩) N1 N1) (.slice (some ⟨s.2.1, 0, none⟩) N1 N1) (.slice (some ⟨s.2.2, 0, none⟩) n n) w') ?hcont (fun HCONT => ?htree)
      case htree =>
        refine three_ (i := 5) (Ni := some 91) (j := 8) (Nj := some 94) (k := 10) (Nk := some 96) #[true, true, true, true, true, true, true, true, false, true, false, false, false, false, false, false, false, false, false, false] #[true, true, true, true, true, false, true, true, true, true, false, false, false, false, false, false, false, false, false, false] #[true, true, true, true, true, false, true, true, false, true, true, false, false, false, false, false, false, false, false, false] rfl rfl rfl rfl rfl rfl (three_of HT_.out (by kernel_rfl)) (by decide) (by decide) (by decide) (fun K hK => ?_) (fun K hK => ?_) (fun K hK => ?_)
        · skip
          refine value_ (by rfl) rfl (mk_run 33 3 (.tmp 90) (.tmp 90) rfl N1 (by first | rfl | exact congrArg (Value.int .i64) en) (by first | rfl | exact congrArg (Value.int .i64) en) Try.underlying33 (.int .i64 0) 8 info3 rfl hN1b (by decide)) ?_
          refine hK.out _ _ trivial (fun _ => ?_)
          clear hK K
          have nF := F0.low HMW.out
          obtain ⟨g5, hg⟩ : ∃ g, g = wq0.heap.size := ⟨_, rfl⟩
          obtain ⟨wq1, hw⟩ : ∃ w, w = wq0.alloc (.cells (Array.replicate N1 (.int .i64 0)) 3) := ⟨_, rfl⟩
          rw [← hg, ← hw] at nF
          rw [← hg, ← hw]
          clear hg hw F0
          have F0 := nF
          clear nF
          refine norm_ (a' := ?_) ?_ ?_
          rotate_left
          · show Act.put _ (some 91) _ = _
            simp only [Act.put, List.setIfInBounds_toArray, List.set_cons_zero, List.set_cons_succ, i64_w, i32_w]
            rfl
          refine pure_ (i := 11) (N := some 97) (v := ?_) (a' := ?_) #[true, true, true, true, true, true, true, true, false, true, false, true, false, false, false, false, false, false, false, false] rfl rfl (any_of HT_.out (by kernel_rfl)) (fun _ _ _ h => h) (Or.inl ⟨by rfl, ?_⟩) ?_ ?_
          rotate_left
          · intro w'
            go_simp
            with_reducible rfl
          rotate_left
          · simp only [Act.put, List.setIfInBounds_toArray, List.set_cons_zero, List.set_cons_succ, i64_w, i32_w]
            rfl
          refine pure_ (i := 12) (N := some 98) (v := ?_) (a' := ?_) #[true, true, true, true, true, true, true, true, false, true, false, true, true, false, false, false, false, false, false, false] rfl rfl (any_of HT_.out (by kernel_rfl)) (fun _ _ _ h => h) (Or.inl ⟨by rfl, ?_⟩) ?_ ?_
          rotate_left
          · intro w'
            go_simp
            with_reducible rfl
          rotate_left
          · simp only [Act.put, List.setIfInBounds_toArray, List.set_cons_zero, List.set_cons_succ, i64_w, i32_w]
            rfl
          refine three_ (i := 8) (Ni := some 94) (j := 10) (Nj := some 96) (k := 13) (Nk := none) #[true, true, true, true, true, true, true, true, true, true, false, true, true, false, false, false, false, false, false, false] #[true, true, true, true, true, true, true, true, false, true, true, true, true, false, false, false, false, false, false, false] #[true, true, true, true, true, true, true, true, false, true, false, true, true, true, false, false, false, false, false, false] rfl rfl rfl rfl rfl rfl (three_of HT_.out (by kernel_rfl)) (by decide) (by decide) (by decide) (fun K hK => ?_) (fun K hK => ?_) (fun K hK => ?_)
          · skip
            refine value_ (by rfl) rfl (mk_run 33 3 (.tmp 93) (.tmp 93) rfl N1 (by first | rfl | exact congrArg (Value.int .i64) en) (by first | rfl | exact congrArg (Value.int .i64) en) Try.underlying33 (.int .i64 0) 8 info3 rfl hN1b (by decide)) ?_
            refine hK.out _ _ trivial (fun _ => ?_)
            clear hK K
            have nF := F0.high HMW.out
            obtain ⟨g8, hg⟩ : ∃ g, g = wq1.heap.size := ⟨_, rfl⟩
            obtain ⟨wq2, hw⟩ : ∃ w, w = wq1.alloc (.cells (Array.replicate N1 (.int .i64 0)) 3) := ⟨_, rfl⟩
            rw [← hg, ← hw] at nF
            rw [← hg, ← hw]
            clear hg hw F0
            have F0 := nF
            clear nF
            refine norm_ (a' := ?_) ?_ ?_
            rotate_left
            · show Act.put _ (some 94) _ = _
              simp only [Act.put, List.setIfInBounds_toArray, List.set_cons_zero, List.set_cons_succ, i64_w, i32_w]
              rfl
            refine two_ (i := 10) (Ni := some 96) (j := 13) (Nj := none) #[true, true, true, true, true, true, true, true, true, true, true, true, true, false, false, false, false, false, false, false] #[true, true, true, true, true, true, true, true, true, true, false, true, true, true, false, false, false, false, false, false] rfl rfl rfl rfl (two_of HT_.out (by kernel_rfl)) (by decide) (by decide) (fun K hK => ?_) (fun K hK => ?_)
            · skip
              refine value_ (by rfl) rfl (mk_run 32 33 (.tmp 95) (.tmp 95) rfl n (by first | rfl | exact congrArg (Value.int .i64) en) (by first | rfl | exact congrArg (Value.int .i64) en) Try.underlying32 (.slice none 0 0) 24 info33 rfl hnb (by decide)) ?_
              refine hK.out _ _ trivial (fun _ => ?_)
              clear hK K
              have nF := F0.list HMW.out
              obtain ⟨g10, hg⟩ : ∃ g, g = wq2.heap.size := ⟨_, rfl⟩
              obtain ⟨wq3, hw⟩ : ∃ w, w = wq2.alloc (.cells (Array.replicate n (.slice none 0 0)) 33) := ⟨_, rfl⟩
              rw [← hg, ← hw] at nF
              rw [← hg, ← hw]
              clear hg hw F0
              have F0 := nF
              clear nF
              refine norm_ (a' := ?_) ?_ ?_
              rotate_left
              · show Act.put _ (some 96) _ = _
                simp only [Act.put, List.setIfInBounds_toArray, List.set_cons_zero, List.set_cons_succ, i64_w, i32_w]
                rfl
              refine one_ (i := 13) (N := none) #[true, true, true, true, true, true, true, true, true, true, true, true, true, true, false, false, false, false, false, false] rfl rfl (one_of HT_.out (by kernel_rfl)) (by decide) (fun K hK => ?_)
              have hcc := F0.box.c2
              have hfr := F0.box.fr 2
              refine skip_ (w1 := ?_) (by rfl) rfl ?_ ?_
              rotate_left
              · go_simp
                rfl
              refine hK.out _ _ trivial (fun _ => ?_)
              clear hK K hcc hfr
              have nF := F0.set hMBw 2 (.slice (some ⟨g5, 0, none⟩) N1 N1) (F0.box.set2 _)
              obtain ⟨wq4, hw⟩ : ∃ w, w = wq3.setCell ⟨B, 2, none⟩ (.slice (some ⟨g5, 0, none⟩) N1 N1) := ⟨_, rfl⟩
              rw [← hw] at nF
              rw [← hw]
              clear hw F0
              have F0 := nF
              clear nF
              refine pure_ (i := 14) (N := some 99) (v := ?_) (a' := ?_) #[true, true, true, true, true, true, true, true, true, true, true, true, true, true, true, false, false, false, false, false] rfl rfl (any_of HT_.out (by kernel_rfl)) (fun _ _ _ h => h) (Or.inl ⟨by rfl, ?_⟩) ?_ ?_
              rotate_left
              · intro w'
                go_simp
                with_reducible rfl
              rotate_left
              · simp only [Act.put, List.setIfInBounds_toArray, List.set_cons_zero, List.set_cons_succ, i64_w, i32_w]
                rfl
              refine pure_ (i := 15) (N := some 100) (v := ?_) (a' := ?_) #[true, true, true, true, true, true, true, true, true, true, true, true, true, true, true, true, false, false, false, false] rfl rfl (any_of HT_.out (by kernel_rfl)) (fun _ _ _ h => h) (Or.inl ⟨by rfl, ?_⟩) ?_ ?_
              rotate_left
              · intro w'
                go_simp
                with_reducible rfl
              rotate_left
              · simp only [Act.put, List.setIfInBounds_toArray, List.set_cons_zero, List.set_cons_succ, i64_w, i32_w]
                rfl
              refine one_ (i := 16) (N := none) #[true, true, true, true, true, true, true, true, true, true, true, true, true, true, true, true, true, false, false, false] rfl rfl (one_of HT_.out (by kernel_rfl)) (by decide) (fun K hK => ?_)
              have hcc := F0.box.c3
              have hfr := F0.box.fr 3
              refine skip_ (w1 := ?_) (by rfl) rfl ?_ ?_
              rotate_left
              · go_simp
                rfl
              refine hK.out _ _ trivial (fun _ => ?_)
              clear hK K hcc hfr
              have nF := F0.set hMBw 3 (.slice (some ⟨g8, 0, none⟩) N1 N1) (F0.box.set3 _)
              obtain ⟨wq5, hw⟩ : ∃ w, w = wq4.setCell ⟨B, 3, none⟩ (.slice (some ⟨g8, 0, none⟩) N1 N1) := ⟨_, rfl⟩
              rw [← hw] at nF
              rw [← hw]
              clear hw F0
              have F0 := nF
              clear nF
              refine pure_ (i := 17) (N := some 101) (v := ?_) (a' := ?_) #[true, true, true, true, true, true, true, true, true, true, true, true, true, true, true, true, true, true, false, false] rfl rfl (any_of HT_.out (by kernel_rfl)) (fun _ _ _ h => h) (Or.inl ⟨by rfl, ?_⟩) ?_ ?_
              rotate_left
              · intro w'
                go_simp
                with_reducible rfl
              rotate_left
              · simp only [Act.put, List.setIfInBounds_toArray, List.set_cons_zero, List.set_cons_succ, i64_w, i32_w]
                rfl
              refine pure_ (i := 18) (N := some 102) (v := ?_) (a' := ?_) #[true, true, true, true, true, true, true, true, true, true, true, true, true, true, true, true, true, true, true, false] rfl rfl (any_of HT_.out (by kernel_rfl)) (fun _ _ _ h => h) (Or.inl ⟨by rfl, ?_⟩) ?_ ?_
              rotate_left
              · intro w'
                go_simp
                with_reducible rfl
              rotate_left
              · simp only [Act.put, List.setIfInBounds_toArray, List.set_cons_zero, List.set_cons_succ, i64_w, i32_w]
                rfl
              refine one_ (i := 19) (N := none) #[true, true, true, true, true, true, true, true, true, true, true, true, true, true, true, true, true, true, true, true] rfl rfl (one_of HT_.out (by kernel_rfl)) (by decide) (fun K hK => ?_)
              have hcc := F0.box.c4
              have hfr := F0.box.fr 4
              refine skip_ (w1 := ?_) (by rfl) rfl ?_ ?_
              rotate_left
              · go_simp
                rfl
              refine hK.out _ _ trivial (fun _ => ?_)
              clear hK K hcc hfr
              have nF := F0.set hMBw 4 (.slice (some ⟨g10, 0, none⟩) n n) (F0.box.set4 _)
              obtain ⟨wq6, hw⟩ : ∃ w, w = wq5.setCell ⟨B, 4, none⟩ (.slice (some ⟨g10, 0, none⟩) n n) := ⟨_, rfl⟩
              rw [← hw] at nF
              rw [← hw]
              clear hw F0
              have F0 := nF
              clear nF
              have hc := HCONT (g5, g8, g10) wq6 F0
              simp only [putAll, Act.put, List.setIfInBounds_toArray, List.set_cons_zero, List.set_cons_succ] at hc
              exact hc
            · skip
              have hcc := F0.box.c2
              have hfr := F0.box.fr 2
              refine skip_ (w1 := ?_) (by rfl) rfl ?_ ?_
              rotate_left
              · go_simp
                rfl
              refine hK.out _ _ trivial (fun _ => ?_)
              clear hK K hcc hfr
              have nF := F0.set hMBw 2 (.slice (some ⟨g5, 0, none⟩) N1 N1) (F0.box.set2 _)
              obtain ⟨wq7, hw⟩ : ∃ w, w = wq2.setCell ⟨B, 2, none⟩ (.slice (some ⟨g5, 0, none⟩) N1 N1) := ⟨_, rfl⟩
              rw [← hw] at nF
              rw [← hw]
              clear hw F0
              have F0 := nF
              clear nF
              refine pure_ (i := 14) (N := some 99) (v := ?_) (a' := ?_) #[true, true, true, true, true, true, true, true, true, true, false, true, true, true, true, false, false, false, false, false] rfl rfl (any_of HT_.out (by kernel_rfl)) (fun _ _ _ h => h) (Or.inl ⟨by rfl, ?_⟩) ?_ ?_
              rotate_left
              · intro w'
                go_simp
                with_reducible rfl
              rotate_left
              · simp only [Act.put, List.setIfInBounds_toArray, List.set_cons_zero, List.set_cons_succ, i64_w, i32_w]
                rfl
              refine pure_ (i := 15) (N := some 100) (v := ?_) (a' := ?_) #[true, true, true, true, true, true, true, true, true, true, false, true, true, true, true, true, false, false, false, false] rfl rfl (any_of HT_.out (by kernel_rfl)) (fun _ _ _ h => h) (Or.inl ⟨by rfl, ?_⟩) ?_ ?_
              rotate_left
              · intro w'
                go_simp
                with_reducible rfl
              rotate_left
              · simp only [Act.put, List.setIfInBounds_toArray, List.set_cons_zero, List.set_cons_succ, i64_w, i32_w]
                rfl
              refine two_ (i := 10) (Ni := some 96) (j := 16) (Nj := none) #[true, true, true, true, true, true, true, true, true, true, true, true, true, true, true, true, false, false, false, false] #[true, true, true, true, true, true, true, true, true, true, false, true, true, true, true, true, true, false, false, false] rfl rfl rfl rfl (two_of HT_.out (by kernel_rfl)) (by decide) (by decide) (fun K hK => ?_) (fun K hK => ?_)
              · skip
                refine value_ (by rfl) rfl (mk_run 32 33 (.tmp 95) (.tmp 95) rfl n (by first | rfl | exact congrArg (Value.int .i64) en) (by first | rfl | exact congrArg (Value.int .i64) en) Try.underlying32 (.slice none 0 0) 24 info33 rfl hnb (by decide)) ?_
                refine hK.out _ _ trivial (fun _ => ?_)
                clear hK K
                have nF := F0.list HMW.out
                obtain ⟨g10, hg⟩ : ∃ g, g = wq7.heap.size := ⟨_, rfl⟩
                obtain ⟨wq8, hw⟩ : ∃ w, w = wq7.alloc (.cells (Array.replicate n (.slice none 0 0)) 33) := ⟨_, rfl⟩
                rw [← hg, ← hw] at nF
                rw [← hg, ← hw]
                clear hg hw F0
                have F0 := nF
                clear nF
                refine norm_ (a' := ?_) ?_ ?_
                rotate_left
                · show Act.put _ (some 96) _ = _
                  simp only [Act.put, List.setIfInBounds_toArray, List.set_cons_zero, List.set_cons_succ, i64_w, i32_w]
                  rfl
                refine one_ (i := 16) (N := none) #[true, true, true, true, true, true, true, true, true, true, true, true, true, true, true, true, true, false, false, false] rfl rfl (one_of HT_.out (by kernel_rfl)) (by decide) (fun K hK => ?_)
                have hcc := F0.box.c3
                have hfr := F0.box.fr 3
                refine skip_ (w1 := ?_) (by rfl) rfl ?_ ?_
                rotate_left
                · go_simp
                  rfl
                refine hK.out _ _ trivial (fun _ => ?_)
                clear hK K hcc hfr
                have nF := F0.set hMBw 3 (.slice (some ⟨g8, 0, none⟩) N1 N1) (F0.box.set3 _)
                obtain ⟨wq9, hw⟩ : ∃ w, w = wq8.setCell ⟨B, 3, none⟩ (.slice (some ⟨g8, 0, none⟩) N1 N1) := ⟨_, rfl⟩
                rw [← hw] at nF
                rw [← hw]
                clear hw F0
                have F0 := nF
                clear nF
                refine pure_ (i := 17) (N := some 101) (v := ?_) (a' := ?_) #[true, true, true, true, true, true, true, true, true, true, true, true, true, true, true, true, true, true, false, false] rfl rfl (any_of HT_.out (by kernel_rfl)) (fun _ _ _ h => h) (Or.inl ⟨by rfl, ?_⟩) ?_ ?_
                rotate_left
                · intro w'
                  go_simp
                  with_reducible rfl
                rotate_left
                · simp only [Act.put, List.setIfInBounds_toArray, List.set_cons_zero, List.set_cons_succ, i64_w, i32_w]
                  rfl
                refine pure_ (i := 18) (N := some 102) (v := ?_) (a' := ?_) #[true, true, true, true, true, true, true, true, true, true, true, true, true, true, true, true, true, true, true, false] rfl rfl (any_of HT_.out (by kernel_rfl)) (fun _ _ _ h => h) (Or.inl ⟨by rfl, ?_⟩) ?_ ?_
                rotate_left
                · intro w'
                  go_simp
                  with_reducible rfl
                rotate_left
                · simp only [Act.put, List.setIfInBounds_toArray, List.set_cons_zero, List.set_cons_succ, i64_w, i32_w]
                  rfl
                refine one_ (i := 19) (N := none) #[true, true, true, true, true, true, true, true, true, true, true, true, true, true, true, true, true, true, true, true] rfl rfl (one_of HT_.out (by kernel_rfl)) (by decide) (fun K hK => ?_)
                have hcc := F0.box.c4
                have hfr := F0.box.fr 4
                refine skip_ (w1 := ?_) (by rfl) rfl ?_ ?_
                rotate_left
                · go_simp
                  rfl
                refine hK.out _ _ trivial (fun _ => ?_)
                clear hK K hcc hfr
                have nF := F0.set hMBw 4 (.slice (some ⟨g10, 0, none⟩) n n) (F0.box.set4 _)
                obtain ⟨wq10, hw⟩ : ∃ w, w = wq9.setCell ⟨B, 4, none⟩ (.slice (some ⟨g10, 0, none⟩) n n) := ⟨_, rfl⟩
                rw [← hw] at nF
                rw [← hw]
                clear hw F0
                have F0 := nF
                clear nF
                have hc := HCONT (g5, g8, g10) wq10 F0
                simp only [putAll, Act.put, List.setIfInBounds_toArray, List.set_cons_zero, List.set_cons_succ] at hc
                exact hc
              · skip
                have hcc := F0.box.c3
                have hfr := F0.box.fr 3
                refine skip_ (w1 := ?_) (by rfl) rfl ?_ ?_
                rotate_left
                · go_simp
                  rfl
                refine hK.out _ _ trivial (fun _ => ?_)
                clear hK K hcc hfr
                have nF := F0.set hMBw 3 (.slice (some ⟨g8, 0, none⟩) N1 N1) (F0.box.set3 _)
                obtain ⟨wq11, hw⟩ : ∃ w, w = wq7.setCell ⟨B, 3, none⟩ (.slice (some ⟨g8, 0, none⟩) N1 N1) := ⟨_, rfl⟩
                rw [← hw] at nF
                rw [← hw]
                clear hw F0
                have F0 := nF
                clear nF
                refine one_ (i := 10) (N := some 96) #[true, true, true, true, true, true, true, true, true, true, true, true, true, true, true, true, true, false, false, false] rfl rfl (one_of HT_.out (by kernel_rfl)) (by decide) (fun K hK => ?_)
                refine value_ (by rfl) rfl (mk_run 32 33 (.tmp 95) (.tmp 95) rfl n (by first | rfl | exact congrArg (Value.int .i64) en) (by first | rfl | exact congrArg (Value.int .i64) en) Try.underlying32 (.slice none 0 0) 24 info33 rfl hnb (by decide)) ?_
                refine hK.out _ _ trivial (fun _ => ?_)
                clear hK K
                have nF := F0.list HMW.out
                obtain ⟨g10, hg⟩ : ∃ g, g = wq11.heap.size := ⟨_, rfl⟩
                obtain ⟨wq12, hw⟩ : ∃ w, w = wq11.alloc (.cells (Array.replicate n (.slice none 0 0)) 33) := ⟨_, rfl⟩
                rw [← hg, ← hw] at nF
                rw [← hg, ← hw]
                clear hg hw F0
                have F0 := nF
                clear nF
                refine norm_ (a' := ?_) ?_ ?_
                rotate_left
                · show Act.put _ (some 96) _ = _
                  simp only [Act.put, List.setIfInBounds_toArray, List.set_cons_zero, List.set_cons_succ, i64_w, i32_w]
                  rfl
                refine pure_ (i := 17) (N := some 101) (v := ?_) (a' := ?_) #[true, true, true, true, true, true, true, true, true, true, true, true, true, true, true, true, true, true, false, false] rfl rfl (any_of HT_.out (by kernel_rfl)) (fun _ _ _ h => h) (Or.inl ⟨by rfl, ?_⟩) ?_ ?_
                rotate_left
                · intro w'
                  go_simp
                  with_reducible rfl
                rotate_left
                · simp only [Act.put, List.setIfInBounds_toArray, List.set_cons_zero, List.set_cons_succ, i64_w, i32_w]
                  rfl
                refine pure_ (i := 18) (N := some 102) (v := ?_) (a' := ?_) #[true, true, true, true, true, true, true, true, true, true, true, true, true, true, true, true, true, true, true, false] rfl rfl (any_of HT_.out (by kernel_rfl)) (fun _ _ _ h => h) (Or.inl ⟨by rfl, ?_⟩) ?_ ?_
                rotate_left
                · intro w'
                  go_simp
                  with_reducible rfl
                rotate_left
                · simp only [Act.put, List.setIfInBounds_toArray, List.set_cons_zero, List.set_cons_succ, i64_w, i32_w]
                  rfl
                refine one_ (i := 19) (N := none) #[true, true, true, true, true, true, true, true, true, true, true, true, true, true, true, true, true, true, true, true] rfl rfl (one_of HT_.out (by kernel_rfl)) (by decide) (fun K hK => ?_)
                have hcc := F0.box.c4
                have hfr := F0.box.fr 4
                refine skip_ (w1 := ?_) (by rfl) rfl ?_ ?_
                rotate_left
                · go_simp
                  rfl
                refine hK.out _ _ trivial (fun _ => ?_)
                clear hK K hcc hfr
                have nF := F0.set hMBw 4 (.slice (some ⟨g10, 0, none⟩) n n) (F0.box.set4 _)
                obtain ⟨wq13, hw⟩ : ∃ w, w = wq12.setCell ⟨B, 4, none⟩ (.slice (some ⟨g10, 0, none⟩) n n) := ⟨_, rfl⟩
                rw [← hw] at nF
                rw [← hw]
                clear hw F0
                have F0 := nF
                clear nF
                have hc := HCONT (g5, g8, g10) wq13 F0
                simp only [putAll, Act.put, List.setIfInBounds_toArray, List.set_cons_zero, List.set_cons_succ] at hc
                exact hc
          · skip
            refine value_ (by rfl) rfl (mk_run 32 33 (.tmp 95) (.tmp 95) rfl n (by first | rfl | exact congrArg (Value.int .i64) en) (by first | rfl | exact congrArg (Value.int .i64) en) Try.underlying32 (.slice none 0 0) 24 info33 rfl hnb (by decide)) ?_
            refine hK.out _ _ trivial (fun _ => ?_)
            clear hK K
            have nF := F0.list HMW.out
            obtain ⟨g10, hg⟩ : ∃ g, g = wq1.heap.size := ⟨_, rfl⟩
            obtain ⟨wq14, hw⟩ : ∃ w, w = wq1.alloc (.cells (Array.replicate n (.slice none 0 0)) 33) := ⟨_, rfl⟩
            rw [← hg, ← hw] at nF
            rw [← hg, ← hw]
            clear hg hw F0
            have F0 := nF
            clear nF
            refine norm_ (a' := ?_) ?_ ?_
            rotate_left
            · show Act.put _ (some 96) _ = _
              simp only [Act.put, List.setIfInBounds_toArray, List.set_cons_zero, List.set_cons_succ, i64_w, i32_w]
              rfl
            refine two_ (i := 8) (Ni := some 94) (j := 13) (Nj := none) #[true, true, true, true, true, true, true, true, true, true, true, true, true, false, false, false, false, false, false, false] #[true, true, true, true, true, true, true, true, false, true, true, true, true, true, false, false, false, false, false, false] rfl rfl rfl rfl (two_of HT_.out (by kernel_rfl)) (by decide) (by decide) (fun K hK => ?_) (fun K hK => ?_)
            · skip
              refine value_ (by rfl) rfl (mk_run 33 3 (.tmp 93) (.tmp 93) rfl N1 (by first | rfl | exact congrArg (Value.int .i64) en) (by first | rfl | exact congrArg (Value.int .i64) en) Try.underlying33 (.int .i64 0) 8 info3 rfl hN1b (by decide)) ?_
              refine hK.out _ _ trivial (fun _ => ?_)
              clear hK K
              have nF := F0.high HMW.out
              obtain ⟨g8, hg⟩ : ∃ g, g = wq14.heap.size := ⟨_, rfl⟩
              obtain ⟨wq15, hw⟩ : ∃ w, w = wq14.alloc (.cells (Array.replicate N1 (.int .i64 0)) 3) := ⟨_, rfl⟩
              rw [← hg, ← hw] at nF
              rw [← hg, ← hw]
              clear hg hw F0
              have F0 := nF
              clear nF
              refine norm_ (a' := ?_) ?_ ?_
              rotate_left
              · show Act.put _ (some 94) _ = _
                simp only [Act.put, List.setIfInBounds_toArray, List.set_cons_zero, List.set_cons_succ, i64_w, i32_w]
                rfl
              refine one_ (i := 13) (N := none) #[true, true, true, true, true, true, true, true, true, true, true, true, true, true, false, false, false, false, false, false] rfl rfl (one_of HT_.out (by kernel_rfl)) (by decide) (fun K hK => ?_)
              have hcc := F0.box.c2
              have hfr := F0.box.fr 2
              refine skip_ (w1 := ?_) (by rfl) rfl ?_ ?_
              rotate_left
              · go_simp
                rfl
              refine hK.out _ _ trivial (fun _ => ?_)
              clear hK K hcc hfr
              have nF := F0.set hMBw 2 (.slice (some ⟨g5, 0, none⟩) N1 N1) (F0.box.set2 _)
              obtain ⟨wq16, hw⟩ : ∃ w, w = wq15.setCell ⟨B, 2, none⟩ (.slice (some ⟨g5, 0, none⟩) N1 N1) := ⟨_, rfl⟩
              rw [← hw] at nF
              rw [← hw]
              clear hw F0
              have F0 := nF
              clear nF
              refine pure_ (i := 14) (N := some 99) (v := ?_) (a' := ?_) #[true, true, true, true, true, true, true, true, true, true, true, true, true, true, true, false, false, false, false, false] rfl rfl (any_of HT_.out (by kernel_rfl)) (fun _ _ _ h => h) (Or.inl ⟨by rfl, ?_⟩) ?_ ?_
              rotate_left
              · intro w'
                go_simp
                with_reducible rfl
              rotate_left
              · simp only [Act.put, List.setIfInBounds_toArray, List.set_cons_zero, List.set_cons_succ, i64_w, i32_w]
                rfl
              refine pure_ (i := 15) (N := some 100) (v := ?_) (a' := ?_) #[true, true, true, true, true, true, true, true, true, true, true, true, true, true, true, true, false, false, false, false] rfl rfl (any_of HT_.out (by kernel_rfl)) (fun _ _ _ h => h) (Or.inl ⟨by rfl, ?_⟩) ?_ ?_
              rotate_left
              · intro w'
                go_simp
                with_reducible rfl
              rotate_left
              · simp only [Act.put, List.setIfInBounds_toArray, List.set_cons_zero, List.set_cons_succ, i64_w, i32_w]
                rfl
              refine one_ (i := 16) (N := none) #[true, true, true, true, true, true, true, true, true, true, true, true, true, true, true, true, true, false, false, false] rfl rfl (one_of HT_.out (by kernel_rfl)) (by decide) (fun K hK => ?_)
              have hcc := F0.box.c3
              have hfr := F0.box.fr 3
              refine skip_ (w1 := ?_) (by rfl) rfl ?_ ?_
              rotate_left
              · go_simp
                rfl
              refine hK.out _ _ trivial (fun _ => ?_)
              clear hK K hcc hfr
              have nF := F0.set hMBw 3 (.slice (some ⟨g8, 0, none⟩) N1 N1) (F0.box.set3 _)
              obtain ⟨wq17, hw⟩ : ∃ w, w = wq16.setCell ⟨B, 3, none⟩ (.slice (some ⟨g8, 0, none⟩) N1 N1) := ⟨_, rfl⟩
              rw [← hw] at nF
              rw [← hw]
              clear hw F0
              have F0 := nF
              clear nF
              refine pure_ (i := 17) (N := some 101) (v := ?_) (a' := ?_) #[true, true, true, true, true, true, true, true, true, true, true, true, true, true, true, true, true, true, false, false] rfl rfl (any_of HT_.out (by kernel_rfl)) (fun _ _ _ h => h) (Or.inl ⟨by rfl, ?_⟩) ?_ ?_
              rotate_left
              · intro w'
                go_simp
                with_reducible rfl
              rotate_left
              · simp only [Act.put, List.setIfInBounds_toArray, List.set_cons_zero, List.set_cons_succ, i64_w, i32_w]
                rfl
              refine pure_ (i := 18) (N := some 102) (v := ?_) (a' := ?_) #[true, true, true, true, true, true, true, true, true, true, true, true, true, true, true, true, true, true, true, false] rfl rfl (any_of HT_.out (by kernel_rfl)) (fun _ _ _ h => h) (Or.inl ⟨by rfl, ?_⟩) ?_ ?_
              rotate_left
              · intro w'
                go_simp
                with_reducible rfl
              rotate_left
              · simp only [Act.put, List.setIfInBounds_toArray, List.set_cons_zero, List.set_cons_succ, i64_w, i32_w]
                rfl
              refine one_ (i := 19) (N := none) #[true, true, true, true, true, true, true, true, true, true, true, true, true, true, true, true, true, true, true, true] rfl rfl (one_of HT_.out (by kernel_rfl)) (by decide) (fun K hK => ?_)
              have hcc := F0.box.c4
              have hfr := F0.box.fr 4
              refine skip_ (w1 := ?_) (by rfl) rfl ?_ ?_
              rotate_left
              · go_simp
                rfl
              refine hK.out _ _ trivial (fun _ => ?_)
              clear hK K hcc hfr
              have nF := F0.set hMBw 4 (.slice (some ⟨g10, 0, none⟩) n n) (F0.box.set4 _)
              obtain ⟨wq18, hw⟩ : ∃ w, w = wq17.setCell ⟨B, 4, none⟩ (.slice (some ⟨g10, 0, none⟩) n n) := ⟨_, rfl⟩
              rw [← hw] at nF
              rw [← hw]
              clear hw F0
              have F0 := nF
              clear nF
              have hc := HCONT (g5, g8, g10) wq18 F0
              simp only [putAll, Act.put, List.setIfInBounds_toArray, List.set_cons_zero, List.set_cons_succ] at hc
              exact hc
            · skip
              have hcc := F0.box.c2
              have hfr := F0.box.fr 2
              refine skip_ (w1 := ?_) (by rfl) rfl ?_ ?_
              rotate_left
              · go_simp
                rfl
              refine hK.out _ _ trivial (fun _ => ?_)
              clear hK K hcc hfr
              have nF := F0.set hMBw 2 (.slice (some ⟨g5, 0, none⟩) N1 N1) (F0.box.set2 _)
              obtain ⟨wq19, hw⟩ : ∃ w, w = wq14.setCell ⟨B, 2, none⟩ (.slice (some ⟨g5, 0, none⟩) N1 N1) := ⟨_, rfl⟩
              rw [← hw] at nF
              rw [← hw]
              clear hw F0
              have F0 := nF
              clear nF
              refine one_ (i := 8) (N := some 94) #[true, true, true, true, true, true, true, true, true, true, true, true, true, true, false, false, false, false, false, false] rfl rfl (one_of HT_.out (by kernel_rfl)) (by decide) (fun K hK => ?_)
              refine value_ (by rfl) rfl (mk_run 33 3 (.tmp 93) (.tmp 93) rfl N1 (by first | rfl | exact congrArg (Value.int .i64) en) (by first | rfl | exact congrArg (Value.int .i64) en) Try.underlying33 (.int .i64 0) 8 info3 rfl hN1b (by decide)) ?_
              refine hK.out _ _ trivial (fun _ => ?_)
              clear hK K
              have nF := F0.high HMW.out
              obtain ⟨g8, hg⟩ : ∃ g, g = wq19.heap.size := ⟨_, rfl⟩
              obtain ⟨wq20, hw⟩ : ∃ w, w = wq19.alloc (.cells (Array.replicate N1 (.int .i64 0)) 3) := ⟨_, rfl⟩
              rw [← hg, ← hw] at nF
              rw [← hg, ← hw]
              clear hg hw F0
              have F0 := nF
              clear nF
              refine norm_ (a' := ?_) ?_ ?_
              rotate_left
              · show Act.put _ (some 94) _ = _
                simp only [Act.put, List.setIfInBounds_toArray, List.set_cons_zero, List.set_cons_succ, i64_w, i32_w]
                rfl
              refine pure_ (i := 14) (N := some 99) (v := ?_) (a' := ?_) #[true, true, true, true, true, true, true, true, true, true, true, true, true, true, true, false, false, false, false, false] rfl rfl (any_of HT_.out (by kernel_rfl)) (fun _ _ _ h => h) (Or.inl ⟨by rfl, ?_⟩) ?_ ?_
              rotate_left
              · intro w'
                go_simp
                with_reducible rfl
              rotate_left
              · simp only [Act.put, List.setIfInBounds_toArray, List.set_cons_zero, List.set_cons_succ, i64_w, i32_w]
                rfl
              refine pure_ (i := 15) (N := some 100) (v := ?_) (a' := ?_) #[true, true, true, true, true, true, true, true, true, true, true, true, true, true, true, true, false, false, false, false] rfl rfl (any_of HT_.out (by kernel_rfl)) (fun _ _ _ h => h) (Or.inl ⟨by rfl, ?_⟩) ?_ ?_
              rotate_left
              · intro w'
                go_simp
                with_reducible rfl
              rotate_left
              · simp only [Act.put, List.setIfInBounds_toArray, List.set_cons_zero, List.set_cons_succ, i64_w, i32_w]
                rfl
              refine one_ (i := 16) (N := none) #[true, true, true, true, true, true, true, true, true, true, true, true, true, true, true, true, true, false, false, false] rfl rfl (one_of HT_.out (by kernel_rfl)) (by decide) (fun K hK => ?_)
              have hcc := F0.box.c3
              have hfr := F0.box.fr 3
              refine skip_ (w1 := ?_) (by rfl) rfl ?_ ?_
              rotate_left
              · go_simp
                rfl
              refine hK.out _ _ trivial (fun _ => ?_)
              clear hK K hcc hfr
              have nF := F0.set hMBw 3 (.slice (some ⟨g8, 0, none⟩) N1 N1) (F0.box.set3 _)
              obtain ⟨wq21, hw⟩ : ∃ w, w = wq20.setCell ⟨B, 3, none⟩ (.slice (some ⟨g8, 0, none⟩) N1 N1) := ⟨_, rfl⟩
              rw [← hw] at nF
              rw [← hw]
              clear hw F0
              have F0 := nF
              clear nF
              refine pure_ (i := 17) (N := some 101) (v := ?_) (a' := ?_) #[true, true, true, true, true, true, true, true, true, true, true, true, true, true, true, true, true, true, false, false] rfl rfl (any_of HT_.out (by kernel_rfl)) (fun _ _ _ h => h) (Or.inl ⟨by rfl, ?_⟩) ?_ ?_
              rotate_left
              · intro w'
                go_simp
                with_reducible rfl
              rotate_left
              · simp only [Act.put, List.setIfInBounds_toArray, List.set_cons_zero, List.set_cons_succ, i64_w, i32_w]
                rfl
              refine pure_ (i := 18) (N := some 102) (v := ?_) (a' := ?_) #[true, true, true, true, true, true, true, true, true, true, true, true, true, true, true, true, true, true, true, false] rfl rfl (any_of HT_.out (by kernel_rfl)) (fun _ _ _ h => h) (Or.inl ⟨by rfl, ?_⟩) ?_ ?_
              rotate_left
              · intro w'
                go_simp
                with_reducible rfl
              rotate_left
              · simp only [Act.put, List.setIfInBounds_toArray, List.set_cons_zero, List.set_cons_succ, i64_w, i32_w]
                rfl
              refine one_ (i := 19) (N := none) #[true, true, true, true, true, true, true, true, true, true, true, true, true, true, true, true, true, true, true, true] rfl rfl (one_of HT_.out (by kernel_rfl)) (by decide) (fun K hK => ?_)
              have hcc := F0.box.c4
              have hfr := F0.box.fr 4
              refine skip_ (w1 := ?_) (by rfl) rfl ?_ ?_
              rotate_left
              · go_simp
                rfl
              refine hK.out _ _ trivial (fun _ => ?_)
              clear hK K hcc hfr
              have nF := F0.set hMBw 4 (.slice (some ⟨g10, 0, none⟩) n n) (F0.box.set4 _)
              obtain ⟨wq22, hw⟩ : ∃ w, w = wq21.setCell ⟨B, 4, none⟩ (.slice (some ⟨g10, 0, none⟩) n n) := ⟨_, rfl⟩
              rw [← hw] at nF
              rw [← hw]
              clear hw F0
              have F0 := nF
              clear nF
              have hc := HCONT (g5, g8, g10) wq22 F0
              simp only [putAll, Act.put, List.setIfInBounds_toArray, List.set_cons_zero, List.set_cons_succ] at hc
              exact hc
          · skip
            have hcc := F0.box.c2
            have hfr := F0.box.fr 2
            refine skip_ (w1 := ?_) (by rfl) rfl ?_ ?_
            rotate_left
            · go_simp
              rfl
            refine hK.out _ _ trivial (fun _ => ?_)
            clear hK K hcc hfr
            have nF := F0.set hMBw 2 (.slice (some ⟨g5, 0, none⟩) N1 N1) (F0.box.set2 _)
            obtain ⟨wq23, hw⟩ : ∃ w, w = wq1.setCell ⟨B, 2, none⟩ (.slice (some ⟨g5, 0, none⟩) N1 N1) := ⟨_, rfl⟩
            rw [← hw] at nF
            rw [← hw]
            clear hw F0
            have F0 := nF
            clear nF
            refine two_ (i := 8) (Ni := some 94) (j := 10) (Nj := some 96) #[true, true, true, true, true, true, true, true, true, true, false, true, true, true, false, false, false, false, false, false] #[true, true, true, true, true, true, true, true, false, true, true, true, true, true, false, false, false, false, false, false] rfl rfl rfl rfl (two_of HT_.out (by kernel_rfl)) (by decide) (by decide) (fun K hK => ?_) (fun K hK => ?_)
            · skip
              refine value_ (by rfl) rfl (mk_run 33 3 (.tmp 93) (.tmp 93) rfl N1 (by first | rfl | exact congrArg (Value.int .i64) en) (by first | rfl | exact congrArg (Value.int .i64) en) Try.underlying33 (.int .i64 0) 8 info3 rfl hN1b (by decide)) ?_
              refine hK.out _ _ trivial (fun _ => ?_)
              clear hK K
              have nF := F0.high HMW.out
              obtain ⟨g8, hg⟩ : ∃ g, g = wq23.heap.size := ⟨_, rfl⟩
              obtain ⟨wq24, hw⟩ : ∃ w, w = wq23.alloc (.cells (Array.replicate N1 (.int .i64 0)) 3) := ⟨_, rfl⟩
              rw [← hg, ← hw] at nF
              rw [← hg, ← hw]
              clear hg hw F0
              have F0 := nF
              clear nF
              refine norm_ (a' := ?_) ?_ ?_
              rotate_left
              · show Act.put _ (some 94) _ = _
                simp only [Act.put, List.setIfInBounds_toArray, List.set_cons_zero, List.set_cons_succ, i64_w, i32_w]
                rfl
              refine pure_ (i := 14) (N := some 99) (v := ?_) (a' := ?_) #[true, true, true, true, true, true, true, true, true, true, false, true, true, true, true, false, false, false, false, false] rfl rfl (any_of HT_.out (by kernel_rfl)) (fun _ _ _ h => h) (Or.inl ⟨by rfl, ?_⟩) ?_ ?_
              rotate_left
              · intro w'
                go_simp
                with_reducible rfl
              rotate_left
              · simp only [Act.put, List.setIfInBounds_toArray, List.set_cons_zero, List.set_cons_succ, i64_w, i32_w]
                rfl
              refine pure_ (i := 15) (N := some 100) (v := ?_) (a' := ?_) #[true, true, true, true, true, true, true, true, true, true, false, true, true, true, true, true, false, false, false, false] rfl rfl (any_of HT_.out (by kernel_rfl)) (fun _ _ _ h => h) (Or.inl ⟨by rfl, ?_⟩) ?_ ?_
              rotate_left
              · intro w'
                go_simp
                with_reducible rfl
              rotate_left
              · simp only [Act.put, List.setIfInBounds_toArray, List.set_cons_zero, List.set_cons_succ, i64_w, i32_w]
                rfl
              refine two_ (i := 10) (Ni := some 96) (j := 16) (Nj := none) #[true, true, true, true, true, true, true, true, true, true, true, true, true, true, true, true, false, false, false, false] #[true, true, true, true, true, true, true, true, true, true, false, true, true, true, true, true, true, false, false, false] rfl rfl rfl rfl (two_of HT_.out (by kernel_rfl)) (by decide) (by decide) (fun K hK => ?_) (fun K hK => ?_)
              · skip
                refine value_ (by rfl) rfl (mk_run 32 33 (.tmp 95) (.tmp 95) rfl n (by first | rfl | exact congrArg (Value.int .i64) en) (by first | rfl | exact congrArg (Value.int .i64) en) Try.underlying32 (.slice none 0 0) 24 info33 rfl hnb (by decide)) ?_
                refine hK.out _ _ trivial (fun _ => ?_)
                clear hK K
                have nF := F0.list HMW.out
                obtain ⟨g10, hg⟩ : ∃ g, g = wq24.heap.size := ⟨_, rfl⟩
                obtain ⟨wq25, hw⟩ : ∃ w, w = wq24.alloc (.cells (Array.replicate n (.slice none 0 0)) 33) := ⟨_, rfl⟩
                rw [← hg, ← hw] at nF
                rw [← hg, ← hw]
                clear hg hw F0
                have F0 := nF
                clear nF
                refine norm_ (a' := ?_) ?_ ?_
                rotate_left
                · show Act.put _ (some 96) _ = _
                  simp only [Act.put, List.setIfInBounds_toArray, List.set_cons_zero, List.set_cons_succ, i64_w, i32_w]
                  rfl
                refine one_ (i := 16) (N := none) #[true, true, true, true, true, true, true, true, true, true, true, true, true, true, true, true, true, false, false, false] rfl rfl (one_of HT_.out (by kernel_rfl)) (by decide) (fun K hK => ?_)
                have hcc := F0.box.c3
                have hfr := F0.box.fr 3
                refine skip_ (w1 := ?_) (by rfl) rfl ?_ ?_
                rotate_left
                · go_simp
                  rfl
                refine hK.out _ _ trivial (fun _ => ?_)
                clear hK K hcc hfr
                have nF := F0.set hMBw 3 (.slice (some ⟨g8, 0, none⟩) N1 N1) (F0.box.set3 _)
                obtain ⟨wq26, hw⟩ : ∃ w, w = wq25.setCell ⟨B, 3, none⟩ (.slice (some ⟨g8, 0, none⟩) N1 N1) := ⟨_, rfl⟩
                rw [← hw] at nF
                rw [← hw]
                clear hw F0
                have F0 := nF
                clear nF
                refine pure_ (i := 17) (N := some 101) (v := ?_) (a' := ?_) #[true, true, true, true, true, true, true, true, true, true, true, true, true, true, true, true, true, true, false, false] rfl rfl (any_of HT_.out (by kernel_rfl)) (fun _ _ _ h => h) (Or.inl ⟨by rfl, ?_⟩) ?_ ?_
                rotate_left
                · intro w'
                  go_simp
                  with_reducible rfl
                rotate_left
                · simp only [Act.put, List.setIfInBounds_toArray, List.set_cons_zero, List.set_cons_succ, i64_w, i32_w]
                  rfl
                refine pure_ (i := 18) (N := some 102) (v := ?_) (a' := ?_) #[true, true, true, true, true, true, true, true, true, true, true, true, true, true, true, true, true, true, true, false] rfl rfl (any_of HT_.out (by kernel_rfl)) (fun _ _ _ h => h) (Or.inl ⟨by rfl, ?_⟩) ?_ ?_
                rotate_left
                · intro w'
                  go_simp
                  with_reducible rfl
                rotate_left
                · simp only [Act.put, List.setIfInBounds_toArray, List.set_cons_zero, List.set_cons_succ, i64_w, i32_w]
                  rfl
                refine one_ (i := 19) (N := none) #[true, true, true, true, true, true, true, true, true, true, true, true, true, true, true, true, true, true, true, true] rfl rfl (one_of HT_.out (by kernel_rfl)) (by decide) (fun K hK => ?_)
                have hcc := F0.box.c4
                have hfr := F0.box.fr 4
                refine skip_ (w1 := ?_) (by rfl) rfl ?_ ?_
                rotate_left
                · go_simp
                  rfl
                refine hK.out _ _ trivial (fun _ => ?_)
                clear hK K hcc hfr
                have nF := F0.set hMBw 4 (.slice (some ⟨g10, 0, none⟩) n n) (F0.box.set4 _)
                obtain ⟨wq27, hw⟩ : ∃ w, w = wq26.setCell ⟨B, 4, none⟩ (.slice (some ⟨g10, 0, none⟩) n n) := ⟨_, rfl⟩
                rw [← hw] at nF
                rw [← hw]
                clear hw F0
                have F0 := nF
                clear nF
                have hc := HCONT (g5, g8, g10) wq27 F0
                simp only [putAll, Act.put, List.setIfInBounds_toArray, List.set_cons_zero, List.set_cons_succ] at hc
                exact hc
              · skip
                have hcc := F0.box.c3
                have hfr := F0.box.fr 3
                refine skip_ (w1 := ?_) (by rfl) rfl ?_ ?_
                rotate_left
                · go_simp
                  rfl
                refine hK.out _ _ trivial (fun _ => ?_)
                clear hK K hcc hfr
                have nF := F0.set hMBw 3 (.slice (some ⟨g8, 0, none⟩) N1 N1) (F0.box.set3 _)
                obtain ⟨wq28, hw⟩ : ∃ w, w = wq24.setCell ⟨B, 3, none⟩ (.slice (some ⟨g8, 0, none⟩) N1 N1) := ⟨_, rfl⟩
                rw [← hw] at nF
                rw [← hw]
                clear hw F0
                have F0 := nF
                clear nF
                refine one_ (i := 10) (N := some 96) #[true, true, true, true, true, true, true, true, true, true, true, true, true, true, true, true, true, false, false, false] rfl rfl (one_of HT_.out (by kernel_rfl)) (by decide) (fun K hK => ?_)
                refine value_ (by rfl) rfl (mk_run 32 33 (.tmp 95) (.tmp 95) rfl n (by first | rfl | exact congrArg (Value.int .i64) en) (by first | rfl | exact congrArg (Value.int .i64) en) Try.underlying32 (.slice none 0 0) 24 info33 rfl hnb (by decide)) ?_
                refine hK.out _ _ trivial (fun _ => ?_)
                clear hK K
                have nF := F0.list HMW.out
                obtain ⟨g10, hg⟩ : ∃ g, g = wq28.heap.size := ⟨_, rfl⟩
                obtain ⟨wq29, hw⟩ : ∃ w, w = wq28.alloc (.cells (Array.replicate n (.slice none 0 0)) 33) := ⟨_, rfl⟩
                rw [← hg, ← hw] at nF
                rw [← hg, ← hw]
                clear hg hw F0
                have F0 := nF
                clear nF
                refine norm_ (a' := ?_) ?_ ?_
                rotate_left
                · show Act.put _ (some 96) _ = _
                  simp only [Act.put, List.setIfInBounds_toArray, List.set_cons_zero, List.set_cons_succ, i64_w, i32_w]
                  rfl
                refine pure_ (i := 17) (N := some 101) (v := ?_) (a' := ?_) #[true, true, true, true, true, true, true, true, true, true, true, true, true, true, true, true, true, true, false, false] rfl rfl (any_of HT_.out (by kernel_rfl)) (fun _ _ _ h => h) (Or.inl ⟨by rfl, ?_⟩) ?_ ?_
                rotate_left
                · intro w'
                  go_simp
                  with_reducible rfl
                rotate_left
                · simp only [Act.put, List.setIfInBounds_toArray, List.set_cons_zero, List.set_cons_succ, i64_w, i32_w]
                  rfl
                refine pure_ (i := 18) (N := some 102) (v := ?_) (a' := ?_) #[true, true, true, true, true, true, true, true, true, true, true, true, true, true, true, true, true, true, true, false] rfl rfl (any_of HT_.out (by kernel_rfl)) (fun _ _ _ h => h) (Or.inl ⟨by rfl, ?_⟩) ?_ ?_
                rotate_left
                · intro w'
                  go_simp
                  with_reducible rfl
                rotate_left
                · simp only [Act.put, List.setIfInBounds_toArray, List.set_cons_zero, List.set_cons_succ, i64_w, i32_w]
                  rfl
                refine one_ (i := 19) (N := none) #[true, true, true, true, true, true, true, true, true, true, true, true, true, true, true, true, true, true, true, true] rfl rfl (one_of HT_.out (by kernel_rfl)) (by decide) (fun K hK => ?_)
                have hcc := F0.box.c4
                have hfr := F0.box.fr 4
                refine skip_ (w1 := ?_) (by rfl) rfl ?_ ?_
                rotate_left
                · go_simp
                  rfl
                refine hK.out _ _ trivial (fun _ => ?_)
                clear hK K hcc hfr
                have nF := F0.set hMBw 4 (.slice (some ⟨g10, 0, none⟩) n n) (F0.box.set4 _)
                obtain ⟨wq30, hw⟩ : ∃ w, w = wq29.setCell ⟨B, 4, none⟩ (.slice (some ⟨g10, 0, none⟩) n n) := ⟨_, rfl⟩
                rw [← hw] at nF
                rw [← hw]
                clear hw F0
                have F0 := nF
                clear nF
                have hc := HCONT (g5, g8, g10) wq30 F0
                simp only [putAll, Act.put, List.setIfInBounds_toArray, List.set_cons_zero, List.set_cons_succ] at hc
                exact hc
            · skip
              refine value_ (by rfl) rfl (mk_run 32 33 (.tmp 95) (.tmp 95) rfl n (by first | rfl | exact congrArg (Value.int .i64) en) (by first | rfl | exact congrArg (Value.int .i64) en) Try.underlying32 (.slice none 0 0) 24 info33 rfl hnb (by decide)) ?_
              refine hK.out _ _ trivial (fun _ => ?_)
              clear hK K
              have nF := F0.list HMW.out
              obtain ⟨g10, hg⟩ : ∃ g, g = wq23.heap.size := ⟨_, rfl⟩
              obtain ⟨wq31, hw⟩ : ∃ w, w = wq23.alloc (.cells (Array.replicate n (.slice none 0 0)) 33) := ⟨_, rfl⟩
              rw [← hg, ← hw] at nF
              rw [← hg, ← hw]
              clear hg hw F0
              have F0 := nF
              clear nF
              refine norm_ (a' := ?_) ?_ ?_
              rotate_left
              · show Act.put _ (some 96) _ = _
                simp only [Act.put, List.setIfInBounds_toArray, List.set_cons_zero, List.set_cons_succ, i64_w, i32_w]
                rfl
              refine one_ (i := 8) (N := some 94) #[true, true, true, true, true, true, true, true, true, true, true, true, true, true, false, false, false, false, false, false] rfl rfl (one_of HT_.out (by kernel_rfl)) (by decide) (fun K hK => ?_)
              refine value_ (by rfl) rfl (mk_run 33 3 (.tmp 93) (.tmp 93) rfl N1 (by first | rfl | exact congrArg (Value.int .i64) en) (by first | rfl | exact congrArg (Value.int .i64) en) Try.underlying33 (.int .i64 0) 8 info3 rfl hN1b (by decide)) ?_
              refine hK.out _ _ trivial (fun _ => ?_)
              clear hK K
              have nF := F0.high HMW.out
              obtain ⟨g8, hg⟩ : ∃ g, g = wq31.heap.size := ⟨_, rfl⟩
              obtain ⟨wq32, hw⟩ : ∃ w, w = wq31.alloc (.cells (Array.replicate N1 (.int .i64 0)) 3) := ⟨_, rfl⟩
              rw [← hg, ← hw] at nF
              rw [← hg, ← hw]
              clear hg hw F0
              have F0 := nF
              clear nF
              refine norm_ (a' := ?_) ?_ ?_
              rotate_left
              · show Act.put _ (some 94) _ = _
                simp only [Act.put, List.setIfInBounds_toArray, List.set_cons_zero, List.set_cons_succ, i64_w, i32_w]
                rfl
              refine pure_ (i := 14) (N := some 99) (v := ?_) (a' := ?_) #[true, true, true, true, true, true, true, true, true, true, true, true, true, true, true, false, false, false, false, false] rfl rfl (any_of HT_.out (by kernel_rfl)) (fun _ _ _ h => h) (Or.inl ⟨by rfl, ?_⟩) ?_ ?_
              rotate_left
              · intro w'
                go_simp
                with_reducible rfl
              rotate_left
              · simp only [Act.put, List.setIfInBounds_toArray, List.set_cons_zero, List.set_cons_succ, i64_w, i32_w]
                rfl
              refine pure_ (i := 15) (N := some 100) (v := ?_) (a' := ?_) #[true, true, true, true, true, true, true, true, true, true, true, true, true, true, true, true, false, false, false, false] rfl rfl (any_of HT_.out (by kernel_rfl)) (fun _ _ _ h => h) (Or.inl ⟨by rfl, ?_⟩) ?_ ?_
              rotate_left
              · intro w'
                go_simp
                with_reducible rfl
              rotate_left
              · simp only [Act.put, List.setIfInBounds_toArray, List.set_cons_zero, List.set_cons_succ, i64_w, i32_w]
                rfl
              refine one_ (i := 16) (N := none) #[true, true, true, true, true, true, true, true, true, true, true, true, true, true, true, true, true, false, false, false] rfl rfl (one_of HT_.out (by kernel_rfl)) (by decide) (fun K hK => ?_)
              have hcc := F0.box.c3
              have hfr := F0.box.fr 3
              refine skip_ (w1 := ?_) (by rfl) rfl ?_ ?_
              rotate_left
              · go_simp
                rfl
              refine hK.out _ _ trivial (fun _ => ?_)
              clear hK K hcc hfr
              have nF := F0.set hMBw 3 (.slice (some ⟨g8, 0, none⟩) N1 N1) (F0.box.set3 _)
              obtain ⟨wq33, hw⟩ : ∃ w, w = wq32.setCell ⟨B, 3, none⟩ (.slice (some ⟨g8, 0, none⟩) N1 N1) := ⟨_, rfl⟩
              rw [← hw] at nF
              rw [← hw]
              clear hw F0
              have F0 := nF
              clear nF
              refine pure_ (i := 17) (N := some 101) (v := ?_) (a' := ?_) #[true, true, true, true, true, true, true, true, true, true, true, true, true, true, true, true, true, true, false, false] rfl rfl (any_of HT_.out (by kernel_rfl)) (fun _ _ _ h => h) (Or.inl ⟨by rfl, ?_⟩) ?_ ?_
              rotate_left
              · intro w'
                go_simp
                with_reducible rfl
              rotate_left
              · simp only [Act.put, List.setIfInBounds_toArray, List.set_cons_zero, List.set_cons_succ, i64_w, i32_w]
                rfl
              refine pure_ (i := 18) (N := some 102) (v := ?_) (a' := ?_) #[true, true, true, true, true, true, true, true, true, true, true, true, true, true, true, true, true, true, true, false] rfl rfl (any_of HT_.out (by kernel_rfl)) (fun _ _ _ h => h) (Or.inl ⟨by rfl, ?_⟩) ?_ ?_
              rotate_left
              · intro w'
                go_simp
                with_reducible rfl
              rotate_left
              · simp only [Act.put, List.setIfInBounds_toArray, List.set_cons_zero, List.set_cons_succ, i64_w, i32_w]
                rfl
              refine one_ (i := 19) (N := none) #[true, true, true, true, true, true, true, true, true, true, true, true, true, true, true, true, true, true, true, true] rfl rfl (one_of HT_.out (by kernel_rfl)) (by decide) (fun K hK => ?_)
              have hcc := F0.box.c4
              have hfr := F0.box.fr 4
              refine skip_ (w1 := ?_) (by rfl) rfl ?_ ?_
              rotate_left
              · go_simp
                rfl
              refine hK.out _ _ trivial (fun _ => ?_)
              clear hK K hcc hfr
              have nF := F0.set hMBw 4 (.slice (some ⟨g10, 0, none⟩) n n) (F0.box.set4 _)
              obtain ⟨wq34, hw⟩ : ∃ w, w = wq33.setCell ⟨B, 4, none⟩ (.slice (some ⟨g10, 0, none⟩) n n) := ⟨_, rfl⟩
              rw [← hw] at nF
              rw [← hw]
              clear hw F0
              have F0 := nF
              clear nF
              have hc := HCONT (g5, g8, g10) wq34 F0
              simp only [putAll, Act.put, List.setIfInBounds_toArray, List.set_cons_zero, List.set_cons_succ] at hc
              exact hc
        · skip
          refine value_ (by rfl) rfl (mk_run 33 3 (.tmp 93) (.tmp 93) rfl N1 (by first | rfl | exact congrArg (Value.int .i64) en) (by first | rfl | exact congrArg (Value.int .i64) en) Try.underlying33 (.int .i64 0) 8 info3 rfl hN1b (by decide)) ?_
          refine hK.out _ _ trivial (fun _ => ?_)
          clear hK K
          have nF := F0.high HMW.out
          obtain ⟨g8, hg⟩ : ∃ g, g = wq0.heap.size := ⟨_, rfl⟩
          obtain ⟨wq35, hw⟩ : ∃ w, w = wq0.alloc (.cells (Array.replicate N1 (.int .i64 0)) 3) := ⟨_, rfl⟩
          rw [← hg, ← hw] at nF
          rw [← hg, ← hw]
          clear hg hw F0
          have F0 := nF
          clear nF
          refine norm_ (a' := ?_) ?_ ?_
          rotate_left
          · show Act.put _ (some 94) _ = _
            simp only [Act.put, List.setIfInBounds_toArray, List.set_cons_zero, List.set_cons_succ, i64_w, i32_w]
            rfl
          refine two_ (i := 5) (Ni := some 91) (j := 10) (Nj := some 96) #[true, true, true, true, true, true, true, true, true, true, false, false, false, false, false, false, false, false, false, false] #[true, true, true, true, true, false, true, true, true, true, true, false, false, false, false, false, false, false, false, false] rfl rfl rfl rfl (two_of HT_.out (by kernel_rfl)) (by decide) (by decide) (fun K hK => ?_) (fun K hK => ?_)
          · skip
            refine value_ (by rfl) rfl (mk_run 33 3 (.tmp 90) (.tmp 90) rfl N1 (by first | rfl | exact congrArg (Value.int .i64) en) (by first | rfl | exact congrArg (Value.int .i64) en) Try.underlying33 (.int .i64 0) 8 info3 rfl hN1b (by decide)) ?_
            refine hK.out _ _ trivial (fun _ => ?_)
            clear hK K
            have nF := F0.low HMW.out
            obtain ⟨g5, hg⟩ : ∃ g, g = wq35.heap.size := ⟨_, rfl⟩
            obtain ⟨wq36, hw⟩ : ∃ w, w = wq35.alloc (.cells (Array.replicate N1 (.int .i64 0)) 3) := ⟨_, rfl⟩
            rw [← hg, ← hw] at nF
            rw [← hg, ← hw]
            clear hg hw F0
            have F0 := nF
            clear nF
            refine norm_ (a' := ?_) ?_ ?_
            rotate_left
            · show Act.put _ (some 91) _ = _
              simp only [Act.put, List.setIfInBounds_toArray, List.set_cons_zero, List.set_cons_succ, i64_w, i32_w]
              rfl
            refine pure_ (i := 11) (N := some 97) (v := ?_) (a' := ?_) #[true, true, true, true, true, true, true, true, true, true, false, true, false, false, false, false, false, false, false, false] rfl rfl (any_of HT_.out (by kernel_rfl)) (fun _ _ _ h => h) (Or.inl ⟨by rfl, ?_⟩) ?_ ?_
            rotate_left
            · intro w'
              go_simp
              with_reducible rfl
            rotate_left
            · simp only [Act.put, List.setIfInBounds_toArray, List.set_cons_zero, List.set_cons_succ, i64_w, i32_w]
              rfl
            refine pure_ (i := 12) (N := some 98) (v := ?_) (a' := ?_) #[true, true, true, true, true, true, true, true, true, true, false, true, true, false, false, false, false, false, false, false] rfl rfl (any_of HT_.out (by kernel_rfl)) (fun _ _ _ h => h) (Or.inl ⟨by rfl, ?_⟩) ?_ ?_
            rotate_left
            · intro w'
              go_simp
              with_reducible rfl
            rotate_left
            · simp only [Act.put, List.setIfInBounds_toArray, List.set_cons_zero, List.set_cons_succ, i64_w, i32_w]
              rfl
            refine two_ (i := 10) (Ni := some 96) (j := 13) (Nj := none) #[true, true, true, true, true, true, true, true, true, true, true, true, true, false, false, false, false, false, false, false] #[true, true, true, true, true, true, true, true, true, true, false, true, true, true, false, false, false, false, false, false] rfl rfl rfl rfl (two_of HT_.out (by kernel_rfl)) (by decide) (by decide) (fun K hK => ?_) (fun K hK => ?_)
            · skip
              refine value_ (by rfl) rfl (mk_run 32 33 (.tmp 95) (.tmp 95) rfl n (by first | rfl | exact congrArg (Value.int .i64) en) (by first | rfl | exact congrArg (Value.int .i64) en) Try.underlying32 (.slice none 0 0) 24 info33 rfl hnb (by decide)) ?_
              refine hK.out _ _ trivial (fun _ => ?_)
              clear hK K
              have nF := F0.list HMW.out
              obtain ⟨g10, hg⟩ : ∃ g, g = wq36.heap.size := ⟨_, rfl⟩
              obtain ⟨wq37, hw⟩ : ∃ w, w = wq36.alloc (.cells (Array.replicate n (.slice none 0 0)) 33) := ⟨_, rfl⟩
              rw [← hg, ← hw] at nF
              rw [← hg, ← hw]
              clear hg hw F0
              have F0 := nF
              clear nF
              refine norm_ (a' := ?_) ?_ ?_
              rotate_left
              · show Act.put _ (some 96) _ = _
                simp only [Act.put, List.setIfInBounds_toArray, List.set_cons_zero, List.set_cons_succ, i64_w, i32_w]
                rfl
              refine one_ (i := 13) (N := none) #[true, true, true, true, true, true, true, true, true, true, true, true, true, true, false, false, false, false, false, false] rfl rfl (one_of HT_.out (by kernel_rfl)) (by decide) (fun K hK => ?_)
              have hcc := F0.box.c2
              have hfr := F0.box.fr 2
              refine skip_ (w1 := ?_) (by rfl) rfl ?_ ?_
              rotate_left
              · go_simp
                rfl
              refine hK.out _ _ trivial (fun _ => ?_)
              clear hK K hcc hfr
              have nF := F0.set hMBw 2 (.slice (some ⟨g5, 0, none⟩) N1 N1) (F0.box.set2 _)
              obtain ⟨wq38, hw⟩ : ∃ w, w = wq37.setCell ⟨B, 2, none⟩ (.slice (some ⟨g5, 0, none⟩) N1 N1) := ⟨_, rfl⟩
              rw [← hw] at nF
              rw [← hw]
              clear hw F0
              have F0 := nF
              clear nF
              refine pure_ (i := 14) (N := some 99) (v := ?_) (a' := ?_) #[true, true, true, true, true, true, true, true, true, true, true, true, true, true, true, false, false, false, false, false] rfl rfl (any_of HT_.out (by kernel_rfl)) (fun _ _ _ h => h) (Or.inl ⟨by rfl, ?_⟩) ?_ ?_
              rotate_left
              · intro w'
                go_simp
                with_reducible rfl
              rotate_left
              · simp only [Act.put, List.setIfInBounds_toArray, List.set_cons_zero, List.set_cons_succ, i64_w, i32_w]
                rfl
              refine pure_ (i := 15) (N := some 100) (v := ?_) (a' := ?_) #[true, true, true, true, true, true, true, true, true, true, true, true, true, true, true, true, false, false, false, false] rfl rfl (any_of HT_.out (by kernel_rfl)) (fun _ _ _ h => h) (Or.inl ⟨by rfl, ?_⟩) ?_ ?_
              rotate_left
              · intro w'
                go_simp
                with_reducible rfl
              rotate_left
              · simp only [Act.put, List.setIfInBounds_toArray, List.set_cons_zero, List.set_cons_succ, i64_w, i32_w]
                rfl
              refine one_ (i := 16) (N := none) #[true, true, true, true, true, true, true, true, true, true, true, true, true, true, true, true, true, false, false, false] rfl rfl (one_of HT_.out (by kernel_rfl)) (by decide) (fun K hK => ?_)
              have hcc := F0.box.c3
              have hfr := F0.box.fr 3
              refine skip_ (w1 := ?_) (by rfl) rfl ?_ ?_
              rotate_left
              · go_simp
                rfl
              refine hK.out _ _ trivial (fun _ => ?_)
              clear hK K hcc hfr
              have nF := F0.set hMBw 3 (.slice (some ⟨g8, 0, none⟩) N1 N1) (F0.box.set3 _)
              obtain ⟨wq39, hw⟩ : ∃ w, w = wq38.setCell ⟨B, 3, none⟩ (.slice (some ⟨g8, 0, none⟩) N1 N1) := ⟨_, rfl⟩
              rw [← hw] at nF
              rw [← hw]
              clear hw F0
              have F0 := nF
              clear nF
              refine pure_ (i := 17) (N := some 101) (v := ?_) (a' := ?_) #[true, true, true, true, true, true, true, true, true, true, true, true, true, true, true, true, true, true, false, false] rfl rfl (any_of HT_.out (by kernel_rfl)) (fun _ _ _ h => h) (Or.inl ⟨by rfl, ?_⟩) ?_ ?_
              rotate_left
              · intro w'
                go_simp
                with_reducible rfl
              rotate_left
              · simp only [Act.put, List.setIfInBounds_toArray, List.set_cons_zero, List.set_cons_succ, i64_w, i32_w]
                rfl
              refine pure_ (i := 18) (N := some 102) (v := ?_) (a' := ?_) #[true, true, true, true, true, true, true, true, true, true, true, true, true, true, true, true, true, true, true, false] rfl rfl (any_of HT_.out (by kernel_rfl)) (fun _ _ _ h => h) (Or.inl ⟨by rfl, ?_⟩) ?_ ?_
              rotate_left
              · intro w'
                go_simp
                with_reducible rfl
              rotate_left
              · simp only [Act.put, List.setIfInBounds_toArray, List.set_cons_zero, List.set_cons_succ, i64_w, i32_w]
                rfl
              refine one_ (i := 19) (N := none) #[true, true, true, true, true, true, true, true, true, true, true, true, true, true, true, true, true, true, true, true] rfl rfl (one_of HT_.out (by kernel_rfl)) (by decide) (fun K hK => ?_)
              have hcc := F0.box.c4
              have hfr := F0.box.fr 4
              refine skip_ (w1 := ?_) (by rfl) rfl ?_ ?_
              rotate_left
              · go_simp
                rfl
              refine hK.out _ _ trivial (fun _ => ?_)
              clear hK K hcc hfr
              have nF := F0.set hMBw 4 (.slice (some ⟨g10, 0, none⟩) n n) (F0.box.set4 _)
              obtain ⟨wq40, hw⟩ : ∃ w, w = wq39.setCell ⟨B, 4, none⟩ (.slice (some ⟨g10, 0, none⟩) n n) := ⟨_, rfl⟩
              rw [← hw] at nF
              rw [← hw]
              clear hw F0
              have F0 := nF
              clear nF
              have hc := HCONT (g5, g8, g10) wq40 F0
              simp only [putAll, Act.put, List.setIfInBounds_toArray, List.set_cons_zero, List.set_cons_succ] at hc
              exact hc
            · skip
              have hcc := F0.box.c2
              have hfr := F0.box.fr 2
              refine skip_ (w1 := ?_) (by rfl) rfl ?_ ?_
              rotate_left
              · go_simp
                rfl
              refine hK.out _ _ trivial (fun _ => ?_)
              clear hK K hcc hfr
              have nF := F0.set hMBw 2 (.slice (some ⟨g5, 0, none⟩) N1 N1) (F0.box.set2 _)
              obtain ⟨wq41, hw⟩ : ∃ w, w = wq36.setCell ⟨B, 2, none⟩ (.slice (some ⟨g5, 0, none⟩) N1 N1) := ⟨_, rfl⟩
              rw [← hw] at nF
              rw [← hw]
              clear hw F0
              have F0 := nF
              clear nF
              refine pure_ (i := 14) (N := some 99) (v := ?_) (a' := ?_) #[true, true, true, true, true, true, true, true, true, true, false, true, true, true, true, false, false, false, false, false] rfl rfl (any_of HT_.out (by kernel_rfl)) (fun _ _ _ h => h) (Or.inl ⟨by rfl, ?_⟩) ?_ ?_
              rotate_left
              · intro w'
                go_simp
                with_reducible rfl
              rotate_left
              · simp only [Act.put, List.setIfInBounds_toArray, List.set_cons_zero, List.set_cons_succ, i64_w, i32_w]
                rfl
              refine pure_ (i := 15) (N := some 100) (v := ?_) (a' := ?_) #[true, true, true, true, true, true, true, true, true, true, false, true, true, true, true, true, false, false, false, false] rfl rfl (any_of HT_.out (by kernel_rfl)) (fun _ _ _ h => h) (Or.inl ⟨by rfl, ?_⟩) ?_ ?_
              rotate_left
              · intro w'
                go_simp
                with_reducible rfl
              rotate_left
              · simp only [Act.put, List.setIfInBounds_toArray, List.set_cons_zero, List.set_cons_succ, i64_w, i32_w]
                rfl
              refine two_ (i := 10) (Ni := some 96) (j := 16) (Nj := none) #[true, true, true, true, true, true, true, true, true, true, true, true, true, true, true, true, false, false, false, false] #[true, true, true, true, true, true, true, true, true, true, false, true, true, true, true, true, true, false, false, false] rfl rfl rfl rfl (two_of HT_.out (by kernel_rfl)) (by decide) (by decide) (fun K hK => ?_) (fun K hK => ?_)
              · skip
                refine value_ (by rfl) rfl (mk_run 32 33 (.tmp 95) (.tmp 95) rfl n (by first | rfl | exact congrArg (Value.int .i64) en) (by first | rfl | exact congrArg (Value.int .i64) en) Try.underlying32 (.slice none 0 0) 24 info33 rfl hnb (by decide)) ?_
                refine hK.out _ _ trivial (fun _ => ?_)
                clear hK K
                have nF := F0.list HMW.out
                obtain ⟨g10, hg⟩ : ∃ g, g = wq41.heap.size := ⟨_, rfl⟩
                obtain ⟨wq42, hw⟩ : ∃ w, w = wq41.alloc (.cells (Array.replicate n (.slice none 0 0)) 33) := ⟨_, rfl⟩
                rw [← hg, ← hw] at nF
                rw [← hg, ← hw]
                clear hg hw F0
                have F0 := nF
                clear nF
                refine norm_ (a' := ?_) ?_ ?_
                rotate_left
                · show Act.put _ (some 96) _ = _
                  simp only [Act.put, List.setIfInBounds_toArray, List.set_cons_zero, List.set_cons_succ, i64_w, i32_w]
                  rfl
                refine one_ (i := 16) (N := none) #[true, true, true, true, true, true, true, true, true, true, true, true, true, true, true, true, true, false, false, false] rfl rfl (one_of HT_.out (by kernel_rfl)) (by decide) (fun K hK => ?_)
                have hcc := F0.box.c3
                have hfr := F0.box.fr 3
                refine skip_ (w1 := ?_) (by rfl) rfl ?_ ?_
                rotate_left
                · go_simp
                  rfl
                refine hK.out _ _ trivial (fun _ => ?_)
                clear hK K hcc hfr
                have nF := F0.set hMBw 3 (.slice (some ⟨g8, 0, none⟩) N1 N1) (F0.box.set3 _)
                obtain ⟨wq43, hw⟩ : ∃ w, w = wq42.setCell ⟨B, 3, none⟩ (.slice (some ⟨g8, 0, none⟩) N1 N1) := ⟨_, rfl⟩
                rw [← hw] at nF
                rw [← hw]
                clear hw F0
                have F0 := nF
                clear nF
                refine pure_ (i := 17) (N := some 101) (v := ?_) (a' := ?_) #[true, true, true, true, true, true, true, true, true, true, true, true, true, true, true, true, true, true, false, false] rfl rfl (any_of HT_.out (by kernel_rfl)) (fun _ _ _ h => h) (Or.inl ⟨by rfl, ?_⟩) ?_ ?_
                rotate_left
                · intro w'
                  go_simp
                  with_reducible rfl
                rotate_left
                · simp only [Act.put, List.setIfInBounds_toArray, List.set_cons_zero, List.set_cons_succ, i64_w, i32_w]
                  rfl
                refine pure_ (i := 18) (N := some 102) (v := ?_) (a' := ?_) #[true, true, true, true, true, true, true, true, true, true, true, true, true, true, true, true, true, true, true, false] rfl rfl (any_of HT_.out (by kernel_rfl)) (fun _ _ _ h => h) (Or.inl ⟨by rfl, ?_⟩) ?_ ?_
                rotate_left
                · intro w'
                  go_simp
                  with_reducible rfl
                rotate_left
                · simp only [Act.put, List.setIfInBounds_toArray, List.set_cons_zero, List.set_cons_succ, i64_w, i32_w]
                  rfl
                refine one_ (i := 19) (N := none) #[true, true, true, true, true, true, true, true, true, true, true, true, true, true, true, true, true, true, true, true] rfl rfl (one_of HT_.out (by kernel_rfl)) (by decide) (fun K hK => ?_)
                have hcc := F0.box.c4
                have hfr := F0.box.fr 4
                refine skip_ (w1 := ?_) (by rfl) rfl ?_ ?_
                rotate_left
                · go_simp
                  rfl
                refine hK.out _ _ trivial (fun _ => ?_)
                clear hK K hcc hfr
                have nF := F0.set hMBw 4 (.slice (some ⟨g10, 0, none⟩) n n) (F0.box.set4 _)
                obtain ⟨wq44, hw⟩ : ∃ w, w = wq43.setCell ⟨B, 4, none⟩ (.slice (some ⟨g10, 0, none⟩) n n) := ⟨_, rfl⟩
                rw [← hw] at nF
                rw [← hw]
                clear hw F0
                have F0 := nF
                clear nF
                have hc := HCONT (g5, g8, g10) wq44 F0
                simp only [putAll, Act.put, List.setIfInBounds_toArray, List.set_cons_zero, List.set_cons_succ] at hc
                exact hc
              · skip
                have hcc := F0.box.c3
                have hfr := F0.box.fr 3
                refine skip_ (w1 := ?_) (by rfl) rfl ?_ ?_
                rotate_left
                · go_simp
                  rfl
                refine hK.out _ _ trivial (fun _ => ?_)
                clear hK K hcc hfr
                have nF := F0.set hMBw 3 (.slice (some ⟨g8, 0, none⟩) N1 N1) (F0.box.set3 _)
                obtain ⟨wq45, hw⟩ : ∃ w, w = wq41.setCell ⟨B, 3, none⟩ (.slice (some ⟨g8, 0, none⟩) N1 N1) := ⟨_, rfl⟩
                rw [← hw] at nF
                rw [← hw]
                clear hw F0
                have F0 := nF
                clear nF
                refine one_ (i := 10) (N := some 96) #[true, true, true, true, true, true, true, true, true, true, true, true, true, true, true, true, true, false, false, false] rfl rfl (one_of HT_.out (by kernel_rfl)) (by decide) (fun K hK => ?_)
                refine value_ (by rfl) rfl (mk_run 32 33 (.tmp 95) (.tmp 95) rfl n (by first | rfl | exact congrArg (Value.int .i64) en) (by first | rfl | exact congrArg (Value.int .i64) en) Try.underlying32 (.slice none 0 0) 24 info33 rfl hnb (by decide)) ?_
                refine hK.out _ _ trivial (fun _ => ?_)
                clear hK K
                have nF := F0.list HMW.out
                obtain ⟨g10, hg⟩ : ∃ g, g = wq45.heap.size := ⟨_, rfl⟩
                obtain ⟨wq46, hw⟩ : ∃ w, w = wq45.alloc (.cells (Array.replicate n (.slice none 0 0)) 33) := ⟨_, rfl⟩
                rw [← hg, ← hw] at nF
                rw [← hg, ← hw]
                clear hg hw F0
                have F0 := nF
                clear nF
                refine norm_ (a' := ?_) ?_ ?_
                rotate_left
                · show Act.put _ (some 96) _ = _
                  simp only [Act.put, List.setIfInBounds_toArray, List.set_cons_zero, List.set_cons_succ, i64_w, i32_w]
                  rfl
                refine pure_ (i := 17) (N := some 101) (v := ?_) (a' := ?_) #[true, true, true, true, true, true, true, true, true, true, true, true, true, true, true, true, true, true, false, false] rfl rfl (any_of HT_.out (by kernel_rfl)) (fun _ _ _ h => h) (Or.inl ⟨by rfl, ?_⟩) ?_ ?_
                rotate_left
                · intro w'
                  go_simp
                  with_reducible rfl
                rotate_left
                · simp only [Act.put, List.setIfInBounds_toArray, List.set_cons_zero, List.set_cons_succ, i64_w, i32_w]
                  rfl
                refine pure_ (i := 18) (N := some 102) (v := ?_) (a' := ?_) #[true, true, true, true, true, true, true, true, true, true, true, true, true, true, true, true, true, true, true, false] rfl rfl (any_of HT_.out (by kernel_rfl)) (fun _ _ _ h => h) (Or.inl ⟨by rfl, ?_⟩) ?_ ?_
                rotate_left
                · intro w'
                  go_simp
                  with_reducible rfl
                rotate_left
                · simp only [Act.put, List.setIfInBounds_toArray, List.set_cons_zero, List.set_cons_succ, i64_w, i32_w]
                  rfl
                refine one_ (i := 19) (N := none) #[true, true, true, true, true, true, true, true, true, true, true, true, true, true, true, true, true, true, true, true] rfl rfl (one_of HT_.out (by kernel_rfl)) (by decide) (fun K hK => ?_)
                have hcc := F0.box.c4
                have hfr := F0.box.fr 4
                refine skip_ (w1 := ?_) (by rfl) rfl ?_ ?_
                rotate_left
                · go_simp
                  rfl
                refine hK.out _ _ trivial (fun _ => ?_)
                clear hK K hcc hfr
                have nF := F0.set hMBw 4 (.slice (some ⟨g10, 0, none⟩) n n) (F0.box.set4 _)
                obtain ⟨wq47, hw⟩ : ∃ w, w = wq46.setCell ⟨B, 4, none⟩ (.slice (some ⟨g10, 0, none⟩) n n) := ⟨_, rfl⟩
                rw [← hw] at nF
                rw [← hw]
                clear hw F0
                have F0 := nF
                clear nF
                have hc := HCONT (g5, g8, g10) wq47 F0
                simp only [putAll, Act.put, List.setIfInBounds_toArray, List.set_cons_zero, List.set_cons_succ] at hc
                exact hc
          · skip
            refine value_ (by rfl) rfl (mk_run 32 33 (.tmp 95) (.tmp 95) rfl n (by first | rfl | exact congrArg (Value.int .i64) en) (by first | rfl | exact congrArg (Value.int .i64) en) Try.underlying32 (.slice none 0 0) 24 info33 rfl hnb (by decide)) ?_
            refine hK.out _ _ trivial (fun _ => ?_)
            clear hK K
            have nF := F0.list HMW.out
            obtain ⟨g10, hg⟩ : ∃ g, g = wq35.heap.size := ⟨_, rfl⟩
            obtain ⟨wq48, hw⟩ : ∃ w, w = wq35.alloc (.cells (Array.replicate n (.slice none 0 0)) 33) := ⟨_, rfl⟩
            rw [← hg, ← hw] at nF
            rw [← hg, ← hw]
            clear hg hw F0
            have F0 := nF
            clear nF
            refine norm_ (a' := ?_) ?_ ?_
            rotate_left
            · show Act.put _ (some 96) _ = _
              simp only [Act.put, List.setIfInBounds_toArray, List.set_cons_zero, List.set_cons_succ, i64_w, i32_w]
              rfl
            refine one_ (i := 5) (N := some 91) #[true, true, true, true, true, true, true, true, true, true, true, false, false, false, false, false, false, false, false, false] rfl rfl (one_of HT_.out (by kernel_rfl)) (by decide) (fun K hK => ?_)
            refine value_ (by rfl) rfl (mk_run 33 3 (.tmp 90) (.tmp 90) rfl N1 (by first | rfl | exact congrArg (Value.int .i64) en) (by first | rfl | exact congrArg (Value.int .i64) en) Try.underlying33 (.int .i64 0) 8 info3 rfl hN1b (by decide)) ?_
            refine hK.out _ _ trivial (fun _ => ?_)
            clear hK K
            have nF := F0.low HMW.out
            obtain ⟨g5, hg⟩ : ∃ g, g = wq48.heap.size := ⟨_, rfl⟩
            obtain ⟨wq49, hw⟩ : ∃ w, w = wq48.alloc (.cells (Array.replicate N1 (.int .i64 0)) 3) := ⟨_, rfl⟩
            rw [← hg, ← hw] at nF
            rw [← hg, ← hw]
            clear hg hw F0
            have F0 := nF
            clear nF
            refine norm_ (a' := ?_) ?_ ?_
            rotate_left
            · show Act.put _ (some 91) _ = _
              simp only [Act.put, List.setIfInBounds_toArray, List.set_cons_zero, List.set_cons_succ, i64_w, i32_w]
              rfl
            refine pure_ (i := 11) (N := some 97) (v := ?_) (a' := ?_) #[true, true, true, true, true, true, true, true, true, true, true, true, false, false, false, false, false, false, false, false] rfl rfl (any_of HT_.out (by kernel_rfl)) (fun _ _ _ h => h) (Or.inl ⟨by rfl, ?_⟩) ?_ ?_
            rotate_left
            · intro w'
              go_simp
              with_reducible rfl
            rotate_left
            · simp only [Act.put, List.setIfInBounds_toArray, List.set_cons_zero, List.set_cons_succ, i64_w, i32_w]
              rfl
            refine pure_ (i := 12) (N := some 98) (v := ?_) (a' := ?_) #[true, true, true, true, true, true, true, true, true, true, true, true, true, false, false, false, false, false, false, false] rfl rfl (any_of HT_.out (by kernel_rfl)) (fun _ _ _ h => h) (Or.inl ⟨by rfl, ?_⟩) ?_ ?_
            rotate_left
            · intro w'
              go_simp
              with_reducible rfl
            rotate_left
            · simp only [Act.put, List.setIfInBounds_toArray, List.set_cons_zero, List.set_cons_succ, i64_w, i32_w]
              rfl
            refine one_ (i := 13) (N := none) #[true, true, true, true, true, true, true, true, true, true, true, true, true, true, false, false, false, false, false, false] rfl rfl (one_of HT_.out (by kernel_rfl)) (by decide) (fun K hK => ?_)
            have hcc := F0.box.c2
            have hfr := F0.box.fr 2
            refine skip_ (w1 := ?_) (by rfl) rfl ?_ ?_
            rotate_left
            · go_simp
              rfl
            refine hK.out _ _ trivial (fun _ => ?_)
            clear hK K hcc hfr
            have nF := F0.set hMBw 2 (.slice (some ⟨g5, 0, none⟩) N1 N1) (F0.box.set2 _)
            obtain ⟨wq50, hw⟩ : ∃ w, w = wq49.setCell ⟨B, 2, none⟩ (.slice (some ⟨g5, 0, none⟩) N1 N1) := ⟨_, rfl⟩
            rw [← hw] at nF
            rw [← hw]
            clear hw F0
            have F0 := nF
            clear nF
            refine pure_ (i := 14) (N := some 99) (v := ?_) (a' := ?_) #[true, true, true, true, true, true, true, true, true, true, true, true, true, true, true, false, false, false, false, false] rfl rfl (any_of HT_.out (by kernel_rfl)) (fun _ _ _ h => h) (Or.inl ⟨by rfl, ?_⟩) ?_ ?_
            rotate_left
            · intro w'
              go_simp
              with_reducible rfl
            rotate_left
            · simp only [Act.put, List.setIfInBounds_toArray, List.set_cons_zero, List.set_cons_succ, i64_w, i32_w]
              rfl
            refine pure_ (i := 15) (N := some 100) (v := ?_) (a' := ?_) #[true, true, true, true, true, true, true, true, true, true, true, true, true, true, true, true, false, false, false, false] rfl rfl (any_of HT_.out (by kernel_rfl)) (fun _ _ _ h => h) (Or.inl ⟨by rfl, ?_⟩) ?_ ?_
            rotate_left
            · intro w'
              go_simp
              with_reducible rfl
            rotate_left
            · simp only [Act.put, List.setIfInBounds_toArray, List.set_cons_zero, List.set_cons_succ, i64_w, i32_w]
              rfl
            refine one_ (i := 16) (N := none) #[true, true, true, true, true, true, true, true, true, true, true, true, true, true, true, true, true, false, false, false] rfl rfl (one_of HT_.out (by kernel_rfl)) (by decide) (fun K hK => ?_)
            have hcc := F0.box.c3
            have hfr := F0.box.fr 3
            refine skip_ (w1 := ?_) (by rfl) rfl ?_ ?_
            rotate_left
            · go_simp
              rfl
            refine hK.out _ _ trivial (fun _ => ?_)
            clear hK K hcc hfr
            have nF := F0.set hMBw 3 (.slice (some ⟨g8, 0, none⟩) N1 N1) (F0.box.set3 _)
            obtain ⟨wq51, hw⟩ : ∃ w, w = wq50.setCell ⟨B, 3, none⟩ (.slice (some ⟨g8, 0, none⟩) N1 N1) := ⟨_, rfl⟩
            rw [← hw] at nF
            rw [← hw]
            clear hw F0
            have F0 := nF
            clear nF
            refine pure_ (i := 17) (N := some 101) (v := ?_) (a' := ?_) #[true, true, true, true, true, true, true, true, true, true, true, true, true, true, true, true, true, true, false, false] rfl rfl (any_of HT_.out (by kernel_rfl)) (fun _ _ _ h => h) (Or.inl ⟨by rfl, ?_⟩) ?_ ?_
            rotate_left
            · intro w'
              go_simp
              with_reducible rfl
            rotate_left
            · simp only [Act.put, List.setIfInBounds_toArray, List.set_cons_zero, List.set_cons_succ, i64_w, i32_w]
              rfl
            refine pure_ (i := 18) (N := some 102) (v := ?_) (a' := ?_) #[true, true, true, true, true, true, true, true, true, true, true, true, true, true, true, true, true, true, true, false] rfl rfl (any_of HT_.out (by kernel_rfl)) (fun _ _ _ h => h) (Or.inl ⟨by rfl, ?_⟩) ?_ ?_
            rotate_left
            · intro w'
              go_simp
              with_reducible rfl
            rotate_left
            · simp only [Act.put, List.setIfInBounds_toArray, List.set_cons_zero, List.set_cons_succ, i64_w, i32_w]
              rfl
            refine one_ (i := 19) (N := none) #[true, true, true, true, true, true, true, true, true, true, true, true, true, true, true, true, true, true, true, true] rfl rfl (one_of HT_.out (by kernel_rfl)) (by decide) (fun K hK => ?_)
            have hcc := F0.box.c4
            have hfr := F0.box.fr 4
            refine skip_ (w1 := ?_) (by rfl) rfl ?_ ?_
            rotate_left
            · go_simp
              rfl
            refine hK.out _ _ trivial (fun _ => ?_)
            clear hK K hcc hfr
            have nF := F0.set hMBw 4 (.slice (some ⟨g10, 0, none⟩) n n) (F0.box.set4 _)
            obtain ⟨wq52, hw⟩ : ∃ w, w = wq51.setCell ⟨B, 4, none⟩ (.slice (some ⟨g10, 0, none⟩) n n) := ⟨_, rfl⟩
            rw [← hw] at nF
            rw [← hw]
            clear hw F0
            have F0 := nF
            clear nF
            have hc := HCONT (g5, g8, g10) wq52 F0
            simp only [putAll, Act.put, List.setIfInBounds_toArray, List.set_cons_zero, List.set_cons_succ] at hc
            exact hc
        · skip
          refine value_ (by rfl) rfl (mk_run 32 33 (.tmp 95) (.tmp 95) rfl n (by first | rfl | exact congrArg (Value.int .i64) en) (by first | rfl | exact congrArg (Value.int .i64) en) Try.underlying32 (.slice none 0 0) 24 info33 rfl hnb (by decide)) ?_
          refine hK.out _ _ trivial (fun _ => ?_)
          clear hK K
          have nF := F0.list HMW.out
          obtain ⟨g10, hg⟩ : ∃ g, g = wq0.heap.size := ⟨_, rfl⟩
          obtain ⟨wq53, hw⟩ : ∃ w, w = wq0.alloc (.cells (Array.replicate n (.slice none 0 0)) 33) := ⟨_, rfl⟩
          rw [← hg, ← hw] at nF
          rw [← hg, ← hw]
          clear hg hw F0
          have F0 := nF
          clear nF
          refine norm_ (a' := ?_) ?_ ?_
          rotate_left
          · show Act.put _ (some 96) _ = _
            simp only [Act.put, List.setIfInBounds_toArray, List.set_cons_zero, List.set_cons_succ, i64_w, i32_w]
            rfl
          refine two_ (i := 5) (Ni := some 91) (j := 8) (Nj := some 94) #[true, true, true, true, true, true, true, true, false, true, true, false, false, false, false, false, false, false, false, false] #[true, true, true, true, true, false, true, true, true, true, true, false, false, false, false, false, false, false, false, false] rfl rfl rfl rfl (two_of HT_.out (by kernel_rfl)) (by decide) (by decide) (fun K hK => ?_) (fun K hK => ?_)
          · skip
            refine value_ (by rfl) rfl (mk_run 33 3 (.tmp 90) (.tmp 90) rfl N1 (by first | rfl | exact congrArg (Value.int .i64) en) (by first | rfl | exact congrArg (Value.int .i64) en) Try.underlying33 (.int .i64 0) 8 info3 rfl hN1b (by decide)) ?_
            refine hK.out _ _ trivial (fun _ => ?_)
            clear hK K
            have nF := F0.low HMW.out
            obtain ⟨g5, hg⟩ : ∃ g, g = wq53.heap.size := ⟨_, rfl⟩
            obtain ⟨wq54, hw⟩ : ∃ w, w = wq53.alloc (.cells (Array.replicate N1 (.int .i64 0)) 3) := ⟨_, rfl⟩
            rw [← hg, ← hw] at nF
            rw [← hg, ← hw]
            clear hg hw F0
            have F0 := nF
            clear nF
            refine norm_ (a' := ?_) ?_ ?_
            rotate_left
            · show Act.put _ (some 91) _ = _
              simp only [Act.put, List.setIfInBounds_toArray, List.set_cons_zero, List.set_cons_succ, i64_w, i32_w]
              rfl
            refine pure_ (i := 11) (N := some 97) (v := ?_) (a' := ?_) #[true, true, true, true, true, true, true, true, false, true, true, true, false, false, false, false, false, false, false, false] rfl rfl (any_of HT_.out (by kernel_rfl)) (fun _ _ _ h => h) (Or.inl ⟨by rfl, ?_⟩) ?_ ?_
            rotate_left
            · intro w'
              go_simp
              with_reducible rfl
            rotate_left
            · simp only [Act.put, List.setIfInBounds_toArray, List.set_cons_zero, List.set_cons_succ, i64_w, i32_w]
              rfl
            refine pure_ (i := 12) (N := some 98) (v := ?_) (a' := ?_) #[true, true, true, true, true, true, true, true, false, true, true, true, true, false, false, false, false, false, false, false] rfl rfl (any_of HT_.out (by kernel_rfl)) (fun _ _ _ h => h) (Or.inl ⟨by rfl, ?_⟩) ?_ ?_
            rotate_left
            · intro w'
              go_simp
              with_reducible rfl
            rotate_left
            · simp only [Act.put, List.setIfInBounds_toArray, List.set_cons_zero, List.set_cons_succ, i64_w, i32_w]
              rfl
            refine two_ (i := 8) (Ni := some 94) (j := 13) (Nj := none) #[true, true, true, true, true, true, true, true, true, true, true, true, true, false, false, false, false, false, false, false] #[true, true, true, true, true, true, true, true, false, true, true, true, true, true, false, false, false, false, false, false] rfl rfl rfl rfl (two_of HT_.out (by kernel_rfl)) (by decide) (by decide) (fun K hK => ?_) (fun K hK => ?_)
            · skip
              refine value_ (by rfl) rfl (mk_run 33 3 (.tmp 93) (.tmp 93) rfl N1 (by first | rfl | exact congrArg (Value.int .i64) en) (by first | rfl | exact congrArg (Value.int .i64) en) Try.underlying33 (.int .i64 0) 8 info3 rfl hN1b (by decide)) ?_
              refine hK.out _ _ trivial (fun _ => ?_)
              clear hK K
              have nF := F0.high HMW.out
              obtain ⟨g8, hg⟩ : ∃ g, g = wq54.heap.size := ⟨_, rfl⟩
              obtain ⟨wq55, hw⟩ : ∃ w, w = wq54.alloc (.cells (Array.replicate N1 (.int .i64 0)) 3) := ⟨_, rfl⟩
              rw [← hg, ← hw] at nF
              rw [← hg, ← hw]
              clear hg hw F0
              have F0 := nF
              clear nF
              refine norm_ (a' := ?_) ?_ ?_
              rotate_left
              · show Act.put _ (some 94) _ = _
                simp only [Act.put, List.setIfInBounds_toArray, List.set_cons_zero, List.set_cons_succ, i64_w, i32_w]
                rfl
              refine one_ (i := 13) (N := none) #[true, true, true, true, true, true, true, true, true, true, true, true, true, true, false, false, false, false, false, false] rfl rfl (one_of HT_.out (by kernel_rfl)) (by decide) (fun K hK => ?_)
              have hcc := F0.box.c2
              have hfr := F0.box.fr 2
              refine skip_ (w1 := ?_) (by rfl) rfl ?_ ?_
              rotate_left
              · go_simp
                rfl
              refine hK.out _ _ trivial (fun _ => ?_)
              clear hK K hcc hfr
              have nF := F0.set hMBw 2 (.slice (some ⟨g5, 0, none⟩) N1 N1) (F0.box.set2 _)
              obtain ⟨wq56, hw⟩ : ∃ w, w = wq55.setCell ⟨B, 2, none⟩ (.slice (some ⟨g5, 0, none⟩) N1 N1) := ⟨_, rfl⟩
              rw [← hw] at nF
              rw [← hw]
              clear hw F0
              have F0 := nF
              clear nF
              refine pure_ (i := 14) (N := some 99) (v := ?_) (a' := ?_) #[true, true, true, true, true, true, true, true, true, true, true, true, true, true, true, false, false, false, false, false] rfl rfl (any_of HT_.out (by kernel_rfl)) (fun _ _ _ h => h) (Or.inl ⟨by rfl, ?_⟩) ?_ ?_
              rotate_left
              · intro w'
                go_simp
                with_reducible rfl
              rotate_left
              · simp only [Act.put, List.setIfInBounds_toArray, List.set_cons_zero, List.set_cons_succ, i64_w, i32_w]
                rfl
              refine pure_ (i := 15) (N := some 100) (v := ?_) (a' := ?_) #[true, true, true, true, true, true, true, true, true, true, true, true, true, true, true, true, false, false, false, false] rfl rfl (any_of HT_.out (by kernel_rfl)) (fun _ _ _ h => h) (Or.inl ⟨by rfl, ?_⟩) ?_ ?_
              rotate_left
              · intro w'
                go_simp
                with_reducible rfl
              rotate_left
              · simp only [Act.put, List.setIfInBounds_toArray, List.set_cons_zero, List.set_cons_succ, i64_w, i32_w]
                rfl
              refine one_ (i := 16) (N := none) #[true, true, true, true, true, true, true, true, true, true, true, true, true, true, true, true, true, false, false, false] rfl rfl (one_of HT_.out (by kernel_rfl)) (by decide) (fun K hK => ?_)
              have hcc := F0.box.c3
              have hfr := F0.box.fr 3
              refine skip_ (w1 := ?_) (by rfl) rfl ?_ ?_
              rotate_left
              · go_simp
                rfl
              refine hK.out _ _ trivial (fun _ => ?_)
              clear hK K hcc hfr
              have nF := F0.set hMBw 3 (.slice (some ⟨g8, 0, none⟩) N1 N1) (F0.box.set3 _)
              obtain ⟨wq57, hw⟩ : ∃ w, w = wq56.setCell ⟨B, 3, none⟩ (.slice (some ⟨g8, 0, none⟩) N1 N1) := ⟨_, rfl⟩
              rw [← hw] at nF
              rw [← hw]
              clear hw F0
              have F0 := nF
              clear nF
              refine pure_ (i := 17) (N := some 101) (v := ?_) (a' := ?_) #[true, true, true, true, true, true, true, true, true, true, true, true, true, true, true, true, true, true, false, false] rfl rfl (any_of HT_.out (by kernel_rfl)) (fun _ _ _ h => h) (Or.inl ⟨by rfl, ?_⟩) ?_ ?_
              rotate_left
              · intro w'
                go_simp
                with_reducible rfl
              rotate_left
              · simp only [Act.put, List.setIfInBounds_toArray, List.set_cons_zero, List.set_cons_succ, i64_w, i32_w]
                rfl
              refine pure_ (i := 18) (N := some 102) (v := ?_) (a' := ?_) #[true, true, true, true, true, true, true, true, true, true, true, true, true, true, true, true, true, true, true, false] rfl rfl (any_of HT_.out (by kernel_rfl)) (fun _ _ _ h => h) (Or.inl ⟨by rfl, ?_⟩) ?_ ?_
              rotate_left
              · intro w'
                go_simp
                with_reducible rfl
              rotate_left
              · simp only [Act.put, List.setIfInBounds_toArray, List.set_cons_zero, List.set_cons_succ, i64_w, i32_w]
                rfl
              refine one_ (i := 19) (N := none) #[true, true, true, true, true, true, true, true, true, true, true, true, true, true, true, true, true, true, true, true] rfl rfl (one_of HT_.out (by kernel_rfl)) (by decide) (fun K hK => ?_)
              have hcc := F0.box.c4
              have hfr := F0.box.fr 4
              refine skip_ (w1 := ?_) (by rfl) rfl ?_ ?_
              rotate_left
              · go_simp
                rfl
              refine hK.out _ _ trivial (fun _ => ?_)
              clear hK K hcc hfr
              have nF := F0.set hMBw 4 (.slice (some ⟨g10, 0, none⟩) n n) (F0.box.set4 _)
              obtain ⟨wq58, hw⟩ : ∃ w, w = wq57.setCell ⟨B, 4, none⟩ (.slice (some ⟨g10, 0, none⟩) n n) := ⟨_, rfl⟩
              rw [← hw] at nF
              rw [← hw]
              clear hw F0
              have F0 := nF
              clear nF
              have hc := HCONT (g5, g8, g10) wq58 F0
              simp only [putAll, Act.put, List.setIfInBounds_toArray, List.set_cons_zero, List.set_cons_succ] at hc
              exact hc
            · skip
              have hcc := F0.box.c2
              have hfr := F0.box.fr 2
              refine skip_ (w1 := ?_) (by rfl) rfl ?_ ?_
              rotate_left
              · go_simp
                rfl
              refine hK.out _ _ trivial (fun _ => ?_)
              clear hK K hcc hfr
              have nF := F0.set hMBw 2 (.slice (some ⟨g5, 0, none⟩) N1 N1) (F0.box.set2 _)
              obtain ⟨wq59, hw⟩ : ∃ w, w = wq54.setCell ⟨B, 2, none⟩ (.slice (some ⟨g5, 0, none⟩) N1 N1) := ⟨_, rfl⟩
              rw [← hw] at nF
              rw [← hw]
              clear hw F0
              have F0 := nF
              clear nF
              refine one_ (i := 8) (N := some 94) #[true, true, true, true, true, true, true, true, true, true, true, true, true, true, false, false, false, false, false, false] rfl rfl (one_of HT_.out (by kernel_rfl)) (by decide) (fun K hK => ?_)
              refine value_ (by rfl) rfl (mk_run 33 3 (.tmp 93) (.tmp 93) rfl N1 (by first | rfl | exact congrArg (Value.int .i64) en) (by first | rfl | exact congrArg (Value.int .i64) en) Try.underlying33 (.int .i64 0) 8 info3 rfl hN1b (by decide)) ?_
              refine hK.out _ _ trivial (fun _ => ?_)
              clear hK K
              have nF := F0.high HMW.out
              obtain ⟨g8, hg⟩ : ∃ g, g = wq59.heap.size := ⟨_, rfl⟩
              obtain ⟨wq60, hw⟩ : ∃ w, w = wq59.alloc (.cells (Array.replicate N1 (.int .i64 0)) 3) := ⟨_, rfl⟩
              rw [← hg, ← hw] at nF
              rw [← hg, ← hw]
              clear hg hw F0
              have F0 := nF
              clear nF
              refine norm_ (a' := ?_) ?_ ?_
              rotate_left
              · show Act.put _ (some 94) _ = _
                simp only [Act.put, List.setIfInBounds_toArray, List.set_cons_zero, List.set_cons_succ, i64_w, i32_w]
                rfl
              refine pure_ (i := 14) (N := some 99) (v := ?_) (a' := ?_) #[true, true, true, true, true, true, true, true, true, true, true, true, true, true, true, false, false, false, false, false] rfl rfl (any_of HT_.out (by kernel_rfl)) (fun _ _ _ h => h) (Or.inl ⟨by rfl, ?_⟩) ?_ ?_
              rotate_left
              · intro w'
                go_simp
                with_reducible rfl
              rotate_left
              · simp only [Act.put, List.setIfInBounds_toArray, List.set_cons_zero, List.set_cons_succ, i64_w, i32_w]
                rfl
              refine pure_ (i := 15) (N := some 100) (v := ?_) (a' := ?_) #[true, true, true, true, true, true, true, true, true, true, true, true, true, true, true, true, false, false, false, false] rfl rfl (any_of HT_.out (by kernel_rfl)) (fun _ _ _ h => h) (Or.inl ⟨by rfl, ?_⟩) ?_ ?_
              rotate_left
              · intro w'
                go_simp
                with_reducible rfl
              rotate_left
              · simp only [Act.put, List.setIfInBounds_toArray, List.set_cons_zero, List.set_cons_succ, i64_w, i32_w]
                rfl
              refine one_ (i := 16) (N := none) #[true, true, true, true, true, true, true, true, true, true, true, true, true, true, true, true, true, false, false, false] rfl rfl (one_of HT_.out (by kernel_rfl)) (by decide) (fun K hK => ?_)
              have hcc := F0.box.c3
              have hfr := F0.box.fr 3
              refine skip_ (w1 := ?_) (by rfl) rfl ?_ ?_
              rotate_left
              · go_simp
                rfl
              refine hK.out _ _ trivial (fun _ => ?_)
              clear hK K hcc hfr
              have nF := F0.set hMBw 3 (.slice (some ⟨g8, 0, none⟩) N1 N1) (F0.box.set3 _)
              obtain ⟨wq61, hw⟩ : ∃ w, w = wq60.setCell ⟨B, 3, none⟩ (.slice (some ⟨g8, 0, none⟩) N1 N1) := ⟨_, rfl⟩
              rw [← hw] at nF
              rw [← hw]
              clear hw F0
              have F0 := nF
              clear nF
              refine pure_ (i := 17) (N := some 101) (v := ?_) (a' := ?_) #[true, true, true, true, true, true, true, true, true, true, true, true, true, true, true, true, true, true, false, false] rfl rfl (any_of HT_.out (by kernel_rfl)) (fun _ _ _ h => h) (Or.inl ⟨by rfl, ?_⟩) ?_ ?_
              rotate_left
              · intro w'
                go_simp
                with_reducible rfl
              rotate_left
              · simp only [Act.put, List.setIfInBounds_toArray, List.set_cons_zero, List.set_cons_succ, i64_w, i32_w]
                rfl
              refine pure_ (i := 18) (N := some 102) (v := ?_) (a' := ?_) #[true, true, true, true, true, true, true, true, true, true, true, true, true, true, true, true, true, true, true, false] rfl rfl (any_of HT_.out (by kernel_rfl)) (fun _ _ _ h => h) (Or.inl ⟨by rfl, ?_⟩) ?_ ?_
              rotate_left
              · intro w'
                go_simp
                with_reducible rfl
              rotate_left
              · simp only [Act.put, List.setIfInBounds_toArray, List.set_cons_zero, List.set_cons_succ, i64_w, i32_w]
                rfl
              refine one_ (i := 19) (N := none) #[true, true, true, true, true, true, true, true, true, true, true, true, true, true, true, true, true, true, true, true] rfl rfl (one_of HT_.out (by kernel_rfl)) (by decide) (fun K hK => ?_)
              have hcc := F0.box.c4
              have hfr := F0.box.fr 4
              refine skip_ (w1 := ?_) (by rfl) rfl ?_ ?_
              rotate_left
              · go_simp
                rfl
              refine hK.out _ _ trivial (fun _ => ?_)
              clear hK K hcc hfr
              have nF := F0.set hMBw 4 (.slice (some ⟨g10, 0, none⟩) n n) (F0.box.set4 _)
              obtain ⟨wq62, hw⟩ : ∃ w, w = wq61.setCell ⟨B, 4, none⟩ (.slice (some ⟨g10, 0, none⟩) n n) := ⟨_, rfl⟩
              rw [← hw] at nF
              rw [← hw]
              clear hw F0
              have F0 := nF
              clear nF
              have hc := HCONT (g5, g8, g10) wq62 F0
              simp only [putAll, Act.put, List.setIfInBounds_toArray, List.set_cons_zero, List.set_cons_succ] at hc
              exact hc
          · skip
            refine value_ (by rfl) rfl (mk_run 33 3 (.tmp 93) (.tmp 93) rfl N1 (by first | rfl | exact congrArg (Value.int .i64) en) (by first | rfl | exact congrArg (Value.int .i64) en) Try.underlying33 (.int .i64 0) 8 info3 rfl hN1b (by decide)) ?_
            refine hK.out _ _ trivial (fun _ => ?_)
            clear hK K
            have nF := F0.high HMW.out
            obtain ⟨g8, hg⟩ : ∃ g, g = wq53.heap.size := ⟨_, rfl⟩
            obtain ⟨wq63, hw⟩ : ∃ w, w = wq53.alloc (.cells (Array.replicate N1 (.int .i64 0)) 3) := ⟨_, rfl⟩
            rw [← hg, ← hw] at nF
            rw [← hg, ← hw]
            clear hg hw F0
            have F0 := nF
            clear nF
            refine norm_ (a' := ?_) ?_ ?_
            rotate_left
            · show Act.put _ (some 94) _ = _
              simp only [Act.put, List.setIfInBounds_toArray, List.set_cons_zero, List.set_cons_succ, i64_w, i32_w]
              rfl
            refine one_ (i := 5) (N := some 91) #[true, true, true, true, true, true, true, true, true, true, true, false, false, false, false, false, false, false, false, false] rfl rfl (one_of HT_.out (by kernel_rfl)) (by decide) (fun K hK => ?_)
            refine value_ (by rfl) rfl (mk_run 33 3 (.tmp 90) (.tmp 90) rfl N1 (by first | rfl | exact congrArg (Value.int .i64) en) (by first | rfl | exact congrArg (Value.int .i64) en) Try.underlying33 (.int .i64 0) 8 info3 rfl hN1b (by decide)) ?_
            refine hK.out _ _ trivial (fun _ => ?_)
            clear hK K
            have nF := F0.low HMW.out
            obtain ⟨g5, hg⟩ : ∃ g, g = wq63.heap.size := ⟨_, rfl⟩
            obtain ⟨wq64, hw⟩ : ∃ w, w = wq63.alloc (.cells (Array.replicate N1 (.int .i64 0)) 3) := ⟨_, rfl⟩
            rw [← hg, ← hw] at nF
            rw [← hg, ← hw]
            clear hg hw F0
            have F0 := nF
            clear nF
            refine norm_ (a' := ?_) ?_ ?_
            rotate_left
            · show Act.put _ (some 91) _ = _
              simp only [Act.put, List.setIfInBounds_toArray, List.set_cons_zero, List.set_cons_succ, i64_w, i32_w]
              rfl
            refine pure_ (i := 11) (N := some 97) (v := ?_) (a' := ?_) #[true, true, true, true, true, true, true, true, true, true, true, true, false, false, false, false, false, false, false, false] rfl rfl (any_of HT_.out (by kernel_rfl)) (fun _ _ _ h => h) (Or.inl ⟨by rfl, ?_⟩) ?_ ?_
            rotate_left
            · intro w'
              go_simp
              with_reducible rfl
            rotate_left
            · simp only [Act.put, List.setIfInBounds_toArray, List.set_cons_zero, List.set_cons_succ, i64_w, i32_w]
              rfl
            refine pure_ (i := 12) (N := some 98) (v := ?_) (a' := ?_) #[true, true, true, true, true, true, true, true, true, true, true, true, true, false, false, false, false, false, false, false] rfl rfl (any_of HT_.out (by kernel_rfl)) (fun _ _ _ h => h) (Or.inl ⟨by rfl, ?_⟩) ?_ ?_
            rotate_left
            · intro w'
              go_simp
              with_reducible rfl
            rotate_left
            · simp only [Act.put, List.setIfInBounds_toArray, List.set_cons_zero, List.set_cons_succ, i64_w, i32_w]
              rfl
            refine one_ (i := 13) (N := none) #[true, true, true, true, true, true, true, true, true, true, true, true, true, true, false, false, false, false, false, false] rfl rfl (one_of HT_.out (by kernel_rfl)) (by decide) (fun K hK => ?_)
            have hcc := F0.box.c2
            have hfr := F0.box.fr 2
            refine skip_ (w1 := ?_) (by rfl) rfl ?_ ?_
            rotate_left
            · go_simp
              rfl
            refine hK.out _ _ trivial (fun _ => ?_)
            clear hK K hcc hfr
            have nF := F0.set hMBw 2 (.slice (some ⟨g5, 0, none⟩) N1 N1) (F0.box.set2 _)
            obtain ⟨wq65, hw⟩ : ∃ w, w = wq64.setCell ⟨B, 2, none⟩ (.slice (some ⟨g5, 0, none⟩) N1 N1) := ⟨_, rfl⟩
            rw [← hw] at nF
            rw [← hw]
            clear hw F0
            have F0 := nF
            clear nF
            refine pure_ (i := 14) (N := some 99) (v := ?_) (a' := ?_) #[true, true, true, true, true, true, true, true, true, true, true, true, true, true, true, false, false, false, false, false] rfl rfl (any_of HT_.out (by kernel_rfl)) (fun _ _ _ h => h) (Or.inl ⟨by rfl, ?_⟩) ?_ ?_
            rotate_left
            · intro w'
              go_simp
              with_reducible rfl
            rotate_left
            · simp only [Act.put, List.setIfInBounds_toArray, List.set_cons_zero, List.set_cons_succ, i64_w, i32_w]
              rfl
            refine pure_ (i := 15) (N := some 100) (v := ?_) (a' := ?_) #[true, true, true, true, true, true, true, true, true, true, true, true, true, true, true, true, false, false, false, false] rfl rfl (any_of HT_.out (by kernel_rfl)) (fun _ _ _ h => h) (Or.inl ⟨by rfl, ?_⟩) ?_ ?_
            rotate_left
            · intro w'
              go_simp
              with_reducible rfl
            rotate_left
            · simp only [Act.put, List.setIfInBounds_toArray, List.set_cons_zero, List.set_cons_succ, i64_w, i32_w]
              rfl
            refine one_ (i := 16) (N := none) #[true, true, true, true, true, true, true, true, true, true, true, true, true, true, true, true, true, false, false, false] rfl rfl (one_of HT_.out (by kernel_rfl)) (by decide) (fun K hK => ?_)
            have hcc := F0.box.c3
            have hfr := F0.box.fr 3
            refine skip_ (w1 := ?_) (by rfl) rfl ?_ ?_
            rotate_left
            · go_simp
              rfl
            refine hK.out _ _ trivial (fun _ => ?_)
            clear hK K hcc hfr
            have nF := F0.set hMBw 3 (.slice (some ⟨g8, 0, none⟩) N1 N1) (F0.box.set3 _)
            obtain ⟨wq66, hw⟩ : ∃ w, w = wq65.setCell ⟨B, 3, none⟩ (.slice (some ⟨g8, 0, none⟩) N1 N1) := ⟨_, rfl⟩
            rw [← hw] at nF
            rw [← hw]
            clear hw F0
            have F0 := nF
            clear nF
            refine pure_ (i := 17) (N := some 101) (v := ?_) (a' := ?_) #[true, true, true, true, true, true, true, true, true, true, true, true, true, true, true, true, true, true, false, false] rfl rfl (any_of HT_.out (by kernel_rfl)) (fun _ _ _ h => h) (Or.inl ⟨by rfl, ?_⟩) ?_ ?_
            rotate_left
            · intro w'
              go_simp
              with_reducible rfl
            rotate_left
            · simp only [Act.put, List.setIfInBounds_toArray, List.set_cons_zero, List.set_cons_succ, i64_w, i32_w]
              rfl
            refine pure_ (i := 18) (N := some 102) (v := ?_) (a' := ?_) #[true, true, true, true, true, true, true, true, true, true, true, true, true, true, true, true, true, true, true, false] rfl rfl (any_of HT_.out (by kernel_rfl)) (fun _ _ _ h => h) (Or.inl ⟨by rfl, ?_⟩) ?_ ?_
            rotate_left
            · intro w'
              go_simp
              with_reducible rfl
            rotate_left
            · simp only [Act.put, List.setIfInBounds_toArray, List.set_cons_zero, List.set_cons_succ, i64_w, i32_w]
              rfl
            refine one_ (i := 19) (N := none) #[true, true, true, true, true, true, true, true, true, true, true, true, true, true, true, true, true, true, true, true] rfl rfl (one_of HT_.out (by kernel_rfl)) (by decide) (fun K hK => ?_)
            have hcc := F0.box.c4
            have hfr := F0.box.fr 4
            refine skip_ (w1 := ?_) (by rfl) rfl ?_ ?_
            rotate_left
            · go_simp
              rfl
            refine hK.out _ _ trivial (fun _ => ?_)
            clear hK K hcc hfr
            have nF := F0.set hMBw 4 (.slice (some ⟨g10, 0, none⟩) n n) (F0.box.set4 _)
            obtain ⟨wq67, hw⟩ : ∃ w, w = wq66.setCell ⟨B, 4, none⟩ (.slice (some ⟨g10, 0, none⟩) n n) := ⟨_, rfl⟩
            rw [← hw] at nF
            rw [← hw]
            clear hw F0
            have F0 := nF
            clear nF
            have hc := HCONT (g5, g8, g10) wq67 F0
            simp only [putAll, Act.put, List.setIfInBounds_toArray, List.set_cons_zero, List.set_cons_succ] at hc
            exact hc
      case hcont =>
        clear F0
        rintro ⟨gl, gh, L⟩ w5 F5
        refine norm_ (a' := ?_) ?_ ?_
        rotate_left
        · simp only [putAll, Act.put, List.setIfInBounds_toArray, List.set_cons_zero, List.set_cons_succ]
          rfl
        refine done_ (done_of HT_.out (by kernel_rfl)) ?_
        have F6 := F5.start HN1.out HNL.out
        have HF6 := Lib.hid F6
        clear F5 F6 en
        have en1 : wrap64 ((n : Int) - 1) = (n : Int) - 1 := wrap64_of' (by omega) (by omega)
        try go_wp2
        go_loopg [8] n (fun kq v8 wr => ∃ m : Nat, kq = m ∧ m ≤ n ∧ v8 = .int .i64 ((m : Int) - 1) ∧ Aside0 (LpF W M B l rk G c2 sl n N1 gl gh L m m wr))
        case atStart => exact ⟨n, rfl, Nat.le_refl _, rfl, ⟨HF6.out⟩⟩
        case round =>
          clear HF6 en1
          obtain ⟨m, hkm, hmn, rfl, HLP0⟩ := hrel
          have HKM := Lib.hid hkm
          clear hkm
          cases m with
          | succ m =>
            have hmi : (((m + 1 : Nat) : Int) - 1) = (m : Int) := by omega
            rw [hmi]
            clear hmi
            have hml : m < sl.length := by rw [HNL.out]; omega
            obtain ⟨f0, hf0⟩ : ∃ f0 : Int, f0 = sl[m].f0 := ⟨_, rfl⟩
            obtain ⟨f1, hf1⟩ : ∃ f1 : Int, f1 = sl[m].f1 := ⟨_, rfl⟩
            obtain ⟨lo1, hlo1⟩ : ∃ x : Int, x = lowOf (sl.drop (m + 1)) := ⟨_, rfl⟩
            obtain ⟨hi1, hhi1⟩ : ∃ x : Int, x = highOf rk (sl.drop (m + 1)) := ⟨_, rfl⟩
            obtain ⟨lo0, hlo0⟩ : ∃ x : Int, x = lowOf (sl.drop m) := ⟨_, rfl⟩
            obtain ⟨hi0, hhi0⟩ : ∃ x : Int, x = highOf rk (sl.drop m) := ⟨_, rfl⟩
            obtain ⟨k1, hk1⟩ : ∃ x : Int, x = rk + 1 := ⟨_, rfl⟩
            obtain ⟨pm, hpm⟩ : ∃ x : Int, x = f1 * k1 := ⟨_, rfl⟩
            have hsok := slots_ok hvB
            rw [← HSL.out, ← HSLE.out] at hsok
            have hrkb : 0 ≤ rk ∧ rk ≤ 2000 := by rw [HRK.out]; omega
            have hfb := hsok sl[m] (List.getElem_mem hml)
            rw [← hf0, ← hf1] at hfb
            have hlb := lowOf_ok (l := sl.drop (m + 1)) (fun s hs => hsok s (List.mem_of_mem_drop hs))
            have hhb := highOf_ok (l := sl.drop (m + 1)) hrkb.1 hrkb.2 (fun s hs => hsok s (List.mem_of_mem_drop hs))
            have hdl : ((sl.drop (m + 1)).length : Int) ≤ 41 := by rw [List.length_drop, HNL.out]; omega
            rw [← hlo1] at hlb
            rw [← hhi1] at hhb
            have hdc : sl.drop m = sl[m] :: sl.drop (m + 1) := List.drop_eq_getElem_cons hml
            have hl01 : lo0 = lo1 + f0 := by rw [hlo0, hdc, lowOf, hlo1, hf0]
            have hh01 : hi0 = hi1 + pm := by rw [hhi0, hdc, highOf, hhi1, hpm, hf1, hk1]
            have hpmb : 0 ≤ pm ∧ pm ≤ 1000 * 2001 := by
              rw [hpm]
              exact ⟨Int.mul_nonneg hfb.2.2.1 (by omega), Int.mul_le_mul hfb.2.2.2 (by omega) (by omega) (by decide)⟩
            have hN1 := HN1.out
            have p1 : (0 ≤ (m : Int)) = True := eq_true (by omega)
            have p2 : ((m : Int) < (n : Int)) = True := eq_true (by omega)
            have p3 : (m < n) = True := eq_true (by omega)
            have p4 : ((m : Int) < (N1 : Int)) = True := eq_true (by omega)
            have p5 : (m < N1) = True := eq_true (by omega)
            have p6 : ((m : Int) + 1 < (N1 : Int)) = True := eq_true (by omega)
            have p7 : (m + 1 < N1) = True := eq_true (by omega)
            have p8 : (0 ≤ (m : Int) + 1) = True := eq_true (by omega)
            have p9 : ((m : Int) + 1).toNat = m + 1 := by omega
            have d0 : decide (0 ≤ (m : Int)) = true := decide_eq_true (by omega)
            have HFX := Lib.hid (And.intro hf0 hf1)
            have HLO1 := Lib.hid hlo1
            have HHI1 := Lib.hid hhi1
            have HLO0 := Lib.hid hlo0
            have HHI0 := Lib.hid hhi0
            have HML := Lib.hid hml
            have hE : wrap64 ((m : Int) + 1) = (m : Int) + 1 ∧ wrap64 (lo1 + f0) = lo0 ∧ wrap64 (rk + 1) = k1 ∧ wrap64 (f1 * k1) = pm ∧ wrap64 (hi1 + pm) = hi0 ∧ wrap64 ((m : Int) - 1) = (m : Int) - 1 :=
              ⟨wrap64_of' (by omega) (by omega), by rw [wrap64_of' (by omega) (by omega)]; exact hl01.symm, by rw [wrap64_of' (by omega) (by omega)]; exact hk1.symm, by rw [← hpm, wrap64_of' (by omega) (by omega)], by rw [wrap64_of' (by omega) (by omega)]; exact hh01.symm, wrap64_of' (by omega) (by omega)⟩
            have hmn2 : m + 1 ≤ n := hmn
            clear hf0 hf1 hlo1 hhi1 hlo0 hhi0 hk1 hpm hsok hrkb hfb hlb hhb hdl hdc hl01 hh01 hpmb hmn hN1
            obtain ⟨e1, e2, e3, e4, e5, e6⟩ := hE
            go_upto_region 18 with (fail)
            obtain ⟨wd, hwd⟩ : ∃ wd, wd = wr.drew := ⟨_, rfl⟩
            have nLP := HLP0.out.drew
            rw [← hwd] at nLP
            have nS := nLP.sc m HML.out
            rw [← HFX.out.1, ← HFX.out.2] at nS
            have nl := nLP.lc (m + 1) (Nat.le_refl _) hmn2
            rw [← HLO1.out] at nl
            have HLP := Lib.hid nLP
            have HS18 := Lib.hid (And.intro nLP.box.c2 (And.intro nl (And.intro nLP.box.c0 nS.1)))
            clear nLP nS nl HLP0
            refine start_ (n := 24) (S := fun w' => w'.cell? ⟨B, 2, none⟩ = some (.slice (some ⟨gl, 0, none⟩) N1 N1) ∧ w'.cell? ⟨gl, m + 1, none⟩ = some (.int .i64 lo1) ∧ w'.cell? ⟨B, 0, none⟩ = some (.slice (some ⟨G, 0, none⟩) n c2) ∧ w'.cell? ⟨G, m * 2, none⟩ = some (.int .i64 f0)) (ds := [23]) #[false, false, false, false, false, false, false, false, false, false, false, false, false, false, false, false, false, false, false, false, false, false, false, false] (by kernel_rfl) rfl rfl (by rw [← hwd]; exact HS18.out) (fun hHeld => ?_); refine with_tabW tab31_18 bits31_18 (fun HT_ HW_ => ?_)
            rw [← hwd] at hHeld ⊢; clear hwd
            refine pure_ (i := 0) (N := some 109) (v := ?_) (a' := ?_) #[true, false, false, false, false, false, false, false, false, false, false, false, false, false, false, false, false, false, false, false, false, false, false, false] rfl rfl (any_of HT_.out (by kernel_rfl)) (fun _ _ _ h => h) (Or.inl ⟨by rfl, ?_⟩) ?_ ?_
            rotate_left
            · intro w'
              go_simp
              with_reducible rfl
            rotate_left
            · simp only [Act.put, List.setIfInBounds_toArray, List.set_cons_zero, List.set_cons_succ, i64_w, i32_w]
              rfl
            refine pure_ (i := 1) (N := some 110) (v := ?_) (a' := ?_) #[true, true, false, false, false, false, false, false, false, false, false, false, false, false, false, false, false, false, false, false, false, false, false, false] rfl rfl (any_of HT_.out (by kernel_rfl)) (fun _ _ _ h => h) (Or.inl ⟨by rfl, ?_⟩) ?_ ?_
            rotate_left
            · intro w'
              go_simp
              with_reducible rfl
            rotate_left
            · simp only [Act.put, List.setIfInBounds_toArray, List.set_cons_zero, List.set_cons_succ, i64_w, i32_w]
              rfl
            refine pure_ (i := 2) (N := some 111) (v := ?_) (a' := ?_) #[true, true, true, false, false, false, false, false, false, false, false, false, false, false, false, false, false, false, false, false, false, false, false, false] rfl rfl (any_of HT_.out (by kernel_rfl)) (fun _ _ _ h => h) (Or.inl ⟨by rfl, ?_⟩) ?_ ?_
            rotate_left
            · intro w'
              go_simp
              with_reducible rfl
            rotate_left
            · simp only [Act.put, List.setIfInBounds_toArray, List.set_cons_zero, List.set_cons_succ, i64_w, i32_w]
              rfl
            refine take_ (i := 3) (N := some 112) (v := ?_) (a' := ?_) #[true, true, true, true, false, false, false, false, false, false, false, false, false, false, false, false, false, false, false, false, false, false, false, false] rfl rfl (take_ofW HT_.out HW_.out (by kernel_rfl)) (fun _ _ _ h => h) (Or.inl ⟨by rfl, ?_⟩) hHeld ?_ ?_
            rotate_left
            · rintro w' ⟨s0, s1, s2, s3⟩
              go_simp
              with_reducible rfl
            rotate_left
            · simp only [Act.put, List.setIfInBounds_toArray, List.set_cons_zero, List.set_cons_succ, i64_w, i32_w]
              rfl
            refine pure_ (i := 4) (N := some 113) (v := ?_) (a' := ?_) #[true, true, true, true, true, false, false, false, false, false, false, false, false, false, false, false, false, false, false, false, false, false, false, false] rfl rfl (any_of HT_.out (by kernel_rfl)) (fun _ _ _ h => h) (Or.inl ⟨by rfl, ?_⟩) ?_ ?_
            rotate_left
            · intro w'
              go_simp
              with_reducible rfl
            rotate_left
            · simp only [Act.put, List.setIfInBounds_toArray, List.set_cons_zero, List.set_cons_succ, i64_w, i32_w]
              rfl
            refine pure_ (i := 5) (N := some 114) (v := ?_) (a' := ?_) #[true, true, true, true, true, true, false, false, false, false, false, false, false, false, false, false, false, false, false, false, false, false, false, false] rfl rfl (any_of HT_.out (by kernel_rfl)) (fun _ _ _ h => h) (Or.inl ⟨by rfl, ?_⟩) ?_ ?_
            rotate_left
            · intro w'
              go_simp
              with_reducible rfl
            rotate_left
            · simp only [Act.put, List.setIfInBounds_toArray, List.set_cons_zero, List.set_cons_succ, i64_w, i32_w]
              rfl
            refine pure_ (i := 6) (N := some 115) (v := ?_) (a' := ?_) #[true, true, true, true, true, true, true, false, false, false, false, false, false, false, false, false, false, false, false, false, false, false, false, false] rfl rfl (any_of HT_.out (by kernel_rfl)) (fun _ _ _ h => h) (Or.inl ⟨by rfl, ?_⟩) ?_ ?_
            rotate_left
            · intro w'
              go_simp
              with_reducible rfl
            rotate_left
            · simp only [Act.put, List.setIfInBounds_toArray, List.set_cons_zero, List.set_cons_succ, i64_w, i32_w]
              rfl
            refine pure_ (i := 7) (N := some 116) (v := ?_) (a' := ?_) #[true, true, true, true, true, true, true, true, false, false, false, false, false, false, false, false, false, false, false, false, false, false, false, false] rfl rfl (any_of HT_.out (by kernel_rfl)) (fun _ _ _ h => h) (Or.inl ⟨by rfl, ?_⟩) ?_ ?_
            rotate_left
            · intro w'
              go_simp
              with_reducible rfl
            rotate_left
            · simp only [Act.put, List.setIfInBounds_toArray, List.set_cons_zero, List.set_cons_succ, i64_w, i32_w]
              rfl
            refine take_ (i := 8) (N := some 117) (v := ?_) (a' := ?_) #[true, true, true, true, true, true, true, true, true, false, false, false, false, false, false, false, false, false, false, false, false, false, false, false] rfl rfl (take_ofW HT_.out HW_.out (by kernel_rfl)) (fun _ _ _ h => h) (Or.inl ⟨by rfl, ?_⟩) hHeld ?_ ?_
            rotate_left
            · rintro w' ⟨s0, s1, s2, s3⟩
              go_simp
              with_reducible rfl
            rotate_left
            · simp only [Act.put, List.setIfInBounds_toArray, List.set_cons_zero, List.set_cons_succ, i64_w, i32_w]
              rfl
            refine pure_ (i := 9) (N := some 118) (v := ?_) (a' := ?_) #[true, true, true, true, true, true, true, true, true, true, false, false, false, false, false, false, false, false, false, false, false, false, false, false] rfl rfl (any_of HT_.out (by kernel_rfl)) (fun _ _ _ h => h) (Or.inl ⟨by rfl, ?_⟩) ?_ ?_
            rotate_left
            · intro w'
              go_simp
              with_reducible rfl
            rotate_left
            · simp only [Act.put, List.setIfInBounds_toArray, List.set_cons_zero, List.set_cons_succ, i64_w, i32_w]
              rfl
            refine pure_ (i := 10) (N := some 119) (v := ?_) (a' := ?_) #[true, true, true, true, true, true, true, true, true, true, true, false, false, false, false, false, false, false, false, false, false, false, false, false] rfl rfl (any_of HT_.out (by kernel_rfl)) (fun _ _ _ h => h) (Or.inl ⟨by rfl, ?_⟩) ?_ ?_
            rotate_left
            · intro w'
              go_simp
              with_reducible rfl
            rotate_left
            · simp only [Act.put, List.setIfInBounds_toArray, List.set_cons_zero, List.set_cons_succ, i64_w, i32_w]
              rfl
            refine pure_ (i := 11) (N := some 120) (v := ?_) (a' := ?_) #[true, true, true, true, true, true, true, true, true, true, true, true, false, false, false, false, false, false, false, false, false, false, false, false] rfl rfl (any_of HT_.out (by kernel_rfl)) (fun _ _ _ h => h) (Or.inl ⟨by rfl, ?_⟩) ?_ ?_
            rotate_left
            · intro w'
              go_simp
              with_reducible rfl
            rotate_left
            · simp only [Act.put, List.setIfInBounds_toArray, List.set_cons_zero, List.set_cons_succ, i64_w, i32_w]
              rfl
            refine take_ (i := 12) (N := some 121) (v := ?_) (a' := ?_) #[true, true, true, true, true, true, true, true, true, true, true, true, true, false, false, false, false, false, false, false, false, false, false, false] rfl rfl (take_ofW HT_.out HW_.out (by kernel_rfl)) (fun _ _ _ h => h) (Or.inl ⟨by rfl, ?_⟩) hHeld ?_ ?_
            rotate_left
            · rintro w' ⟨s0, s1, s2, s3⟩
              go_simp
              with_reducible rfl
            rotate_left
            · simp only [Act.put, List.setIfInBounds_toArray, List.set_cons_zero, List.set_cons_succ, i64_w, i32_w]
              rfl
            refine pure_ (i := 13) (N := some 122) (v := ?_) (a' := ?_) #[true, true, true, true, true, true, true, true, true, true, true, true, true, true, false, false, false, false, false, false, false, false, false, false] rfl rfl (any_of HT_.out (by kernel_rfl)) (fun _ _ _ h => h) (Or.inl ⟨by rfl, ?_⟩) ?_ ?_
            rotate_left
            · intro w'
              go_simp
              with_reducible rfl
            rotate_left
            · simp only [Act.put, List.setIfInBounds_toArray, List.set_cons_zero, List.set_cons_succ, i64_w, i32_w]
              rfl
            refine pure_ (i := 14) (N := some 123) (v := ?_) (a' := ?_) #[true, true, true, true, true, true, true, true, true, true, true, true, true, true, true, false, false, false, false, false, false, false, false, false] rfl rfl (any_of HT_.out (by kernel_rfl)) (fun _ _ _ h => h) (Or.inl ⟨by rfl, ?_⟩) ?_ ?_
            rotate_left
            · intro w'
              go_simp
              with_reducible rfl
            rotate_left
            · simp only [Act.put, List.setIfInBounds_toArray, List.set_cons_zero, List.set_cons_succ, i64_w, i32_w]
              rfl
            refine pure_ (i := 15) (N := some 124) (v := ?_) (a' := ?_) #[true, true, true, true, true, true, true, true, true, true, true, true, true, true, true, true, false, false, false, false, false, false, false, false] rfl rfl (any_of HT_.out (by kernel_rfl)) (fun _ _ _ h => h) (Or.inl ⟨by rfl, ?_⟩) ?_ ?_
            rotate_left
            · intro w'
              go_simp
              with_reducible rfl
            rotate_left
            · simp only [Act.put, List.setIfInBounds_toArray, List.set_cons_zero, List.set_cons_succ, i64_w, i32_w]
              rfl
            refine take_ (i := 16) (N := some 125) (v := ?_) (a' := ?_) #[true, true, true, true, true, true, true, true, true, true, true, true, true, true, true, true, true, false, false, false, false, false, false, false] rfl rfl (take_ofW HT_.out HW_.out (by kernel_rfl)) (fun _ _ _ h => h) (Or.inl ⟨by rfl, ?_⟩) hHeld ?_ ?_
            rotate_left
            · rintro w' ⟨s0, s1, s2, s3⟩
              go_simp
              with_reducible rfl
            rotate_left
            · simp only [Act.put, List.setIfInBounds_toArray, List.set_cons_zero, List.set_cons_succ, i64_w, i32_w]
              rfl
            refine pure_ (i := 17) (N := some 126) (v := ?_) (a' := ?_) #[true, true, true, true, true, true, true, true, true, true, true, true, true, true, true, true, true, true, false, false, false, false, false, false] rfl rfl (any_of HT_.out (by kernel_rfl)) (fun _ _ _ h => h) (Or.inl ⟨by rfl, ?_⟩) ?_ ?_
            rotate_left
            · intro w'
              go_simp
              with_reducible rfl
            rotate_left
            · simp only [Act.put, List.setIfInBounds_toArray, List.set_cons_zero, List.set_cons_succ, i64_w, i32_w]
              rfl
            refine pure_ (i := 18) (N := some 127) (v := ?_) (a' := ?_) #[true, true, true, true, true, true, true, true, true, true, true, true, true, true, true, true, true, true, true, false, false, false, false, false] rfl rfl (any_of HT_.out (by kernel_rfl)) (fun _ _ _ h => h) (Or.inl ⟨by rfl, ?_⟩) ?_ ?_
            rotate_left
            · intro w'
              go_simp
              with_reducible rfl
            rotate_left
            · simp only [Act.put, List.setIfInBounds_toArray, List.set_cons_zero, List.set_cons_succ, i64_w, i32_w]
              rfl
            refine pure_ (i := 19) (N := some 128) (v := ?_) (a' := ?_) #[true, true, true, true, true, true, true, true, true, true, true, true, true, true, true, true, true, true, true, true, false, false, false, false] rfl rfl (any_of HT_.out (by kernel_rfl)) (fun _ _ _ h => h) (Or.inl ⟨by rfl, ?_⟩) ?_ ?_
            rotate_left
            · intro w'
              go_simp
              with_reducible rfl
            rotate_left
            · simp only [Act.put, List.setIfInBounds_toArray, List.set_cons_zero, List.set_cons_succ, i64_w, i32_w]
              rfl
            refine take_ (i := 20) (N := some 129) (v := ?_) (a' := ?_) #[true, true, true, true, true, true, true, true, true, true, true, true, true, true, true, true, true, true, true, true, true, false, false, false] rfl rfl (take_ofW HT_.out HW_.out (by kernel_rfl)) (fun _ _ _ h => h) (Or.inl ⟨by rfl, ?_⟩) hHeld ?_ ?_
            rotate_left
            · rintro w' ⟨s0, s1, s2, s3⟩
              go_simp
              with_reducible rfl
            rotate_left
            · simp only [Act.put, List.setIfInBounds_toArray, List.set_cons_zero, List.set_cons_succ, i64_w, i32_w]
              rfl
            refine pure_ (i := 21) (N := some 130) (v := ?_) (a' := ?_) #[true, true, true, true, true, true, true, true, true, true, true, true, true, true, true, true, true, true, true, true, true, true, false, false] rfl rfl (any_of HT_.out (by kernel_rfl)) (fun _ _ _ h => h) (Or.inl ⟨by rfl, ?_⟩) ?_ ?_
            rotate_left
            · intro w'
              go_simp
              with_reducible rfl
            rotate_left
            · simp only [Act.put, List.setIfInBounds_toArray, List.set_cons_zero, List.set_cons_succ, i64_w, i32_w]
              rfl
            refine pure_ (i := 22) (N := some 131) (v := ?_) (a' := ?_) #[true, true, true, true, true, true, true, true, true, true, true, true, true, true, true, true, true, true, true, true, true, true, true, false] rfl rfl (any_of HT_.out (by kernel_rfl)) (fun _ _ _ h => h) (Or.inl ⟨by rfl, ?_⟩) ?_ ?_
            rotate_left
            · intro w'
              go_simp
              with_reducible rfl
            rotate_left
            · simp only [Act.put, List.setIfInBounds_toArray, List.set_cons_zero, List.set_cons_succ, i64_w, i32_w]
              rfl
            refine last_ (i := 23) (N := none) #[true, true, true, true, true, true, true, true, true, true, true, true, true, true, true, true, true, true, true, true, true, true, true, true] rfl rfl (one_of HT_.out (by kernel_rfl)) (by decide) (fun K hK => ?_)
            obtain ⟨⟨x0, hx0⟩, hfr⟩ := HLP.out.la m (of_eq_true p5)
            refine skip_ (w1 := ?_) (by rfl) rfl ?_ ?_
            rotate_left
            · go_simp
              rfl
            refine hK.out _ _ ?_
            have nLP := HLP.out.setLo HMW.out (of_eq_true p5)
            rw [← HLO0.out] at nLP
            obtain ⟨wx, hwn⟩ : ∃ w, w = wd.setCell ⟨gl, m, none⟩ (.int .i64 lo0) := ⟨_, rfl⟩
            rw [← hwn] at nLP
            rw [← hwn]
            clear hwn hx0 hfr x0 HLP
            have HLP := Lib.hid nLP
            clear nLP
            clear hK K
            refine done_ (done_of HT_.out (by kernel_rfl)) ?_
            clear HS18 hHeld
            go_upto_region 19 with (fail)
            obtain ⟨wd, hwd⟩ : ∃ wd, wd = wx.drew := ⟨_, rfl⟩
            have nLP := HLP.out.drew
            rw [← hwd] at nLP
            have nS := nLP.sc m HML.out
            rw [← HFX.out.1, ← HFX.out.2] at nS
            have nh := nLP.hc (m + 1) (Nat.le_refl _) hmn2
            rw [← HHI1.out] at nh
            clear HLP
            have HLP := Lib.hid nLP
            have HS19 := Lib.hid (And.intro nLP.box.c3 (And.intro nh (And.intro nLP.box.c0 (And.intro nS.2 nLP.box.c1))))
            clear nLP nS nh
            refine start_ (n := 30) (S := fun w' => w'.cell? ⟨B, 3, none⟩ = some (.slice (some ⟨gh, 0, none⟩) N1 N1) ∧ w'.cell? ⟨gh, m + 1, none⟩ = some (.int .i64 hi1) ∧ w'.cell? ⟨B, 0, none⟩ = some (.slice (some ⟨G, 0, none⟩) n c2) ∧ w'.cell? ⟨G, m * 2 + 1, none⟩ = some (.int .i64 f1) ∧ w'.cell? ⟨B, 1, none⟩ = some (.int .i64 rk)) (ds := [29]) #[false, false, false, false, false, false, false, false, false, false, false, false, false, false, false, false, false, false, false, false, false, false, false, false, false, false, false, false, false, false] (by kernel_rfl) rfl rfl (by rw [← hwd]; exact HS19.out) (fun hHeld => ?_); refine with_tabW tab31_19 bits31_19 (fun HT_ HW_ => ?_)
            rw [← hwd] at hHeld ⊢; clear hwd
            refine pure_ (i := 0) (N := some 132) (v := ?_) (a' := ?_) #[true, false, false, false, false, false, false, false, false, false, false, false, false, false, false, false, false, false, false, false, false, false, false, false, false, false, false, false, false, false] rfl rfl (any_of HT_.out (by kernel_rfl)) (fun _ _ _ h => h) (Or.inl ⟨by rfl, ?_⟩) ?_ ?_
            rotate_left
            · intro w'
              go_simp
              with_reducible rfl
            rotate_left
            · simp only [Act.put, List.setIfInBounds_toArray, List.set_cons_zero, List.set_cons_succ, i64_w, i32_w]
              rfl
            refine pure_ (i := 1) (N := some 133) (v := ?_) (a' := ?_) #[true, true, false, false, false, false, false, false, false, false, false, false, false, false, false, false, false, false, false, false, false, false, false, false, false, false, false, false, false, false] rfl rfl (any_of HT_.out (by kernel_rfl)) (fun _ _ _ h => h) (Or.inl ⟨by rfl, ?_⟩) ?_ ?_
            rotate_left
            · intro w'
              go_simp
              with_reducible rfl
            rotate_left
            · simp only [Act.put, List.setIfInBounds_toArray, List.set_cons_zero, List.set_cons_succ, i64_w, i32_w]
              rfl
            refine pure_ (i := 2) (N := some 134) (v := ?_) (a' := ?_) #[true, true, true, false, false, false, false, false, false, false, false, false, false, false, false, false, false, false, false, false, false, false, false, false, false, false, false, false, false, false] rfl rfl (any_of HT_.out (by kernel_rfl)) (fun _ _ _ h => h) (Or.inl ⟨by rfl, ?_⟩) ?_ ?_
            rotate_left
            · intro w'
              go_simp
              with_reducible rfl
            rotate_left
            · simp only [Act.put, List.setIfInBounds_toArray, List.set_cons_zero, List.set_cons_succ, i64_w, i32_w]
              rfl
            refine take_ (i := 3) (N := some 135) (v := ?_) (a' := ?_) #[true, true, true, true, false, false, false, false, false, false, false, false, false, false, false, false, false, false, false, false, false, false, false, false, false, false, false, false, false, false] rfl rfl (take_ofW HT_.out HW_.out (by kernel_rfl)) (fun _ _ _ h => h) (Or.inl ⟨by rfl, ?_⟩) hHeld ?_ ?_
            rotate_left
            · rintro w' ⟨s0, s1, s2, s3, s4⟩
              go_simp
              with_reducible rfl
            rotate_left
            · simp only [Act.put, List.setIfInBounds_toArray, List.set_cons_zero, List.set_cons_succ, i64_w, i32_w]
              rfl
            refine pure_ (i := 4) (N := some 136) (v := ?_) (a' := ?_) #[true, true, true, true, true, false, false, false, false, false, false, false, false, false, false, false, false, false, false, false, false, false, false, false, false, false, false, false, false, false] rfl rfl (any_of HT_.out (by kernel_rfl)) (fun _ _ _ h => h) (Or.inl ⟨by rfl, ?_⟩) ?_ ?_
            rotate_left
            · intro w'
              go_simp
              with_reducible rfl
            rotate_left
            · simp only [Act.put, List.setIfInBounds_toArray, List.set_cons_zero, List.set_cons_succ, i64_w, i32_w]
              rfl
            refine pure_ (i := 5) (N := some 137) (v := ?_) (a' := ?_) #[true, true, true, true, true, true, false, false, false, false, false, false, false, false, false, false, false, false, false, false, false, false, false, false, false, false, false, false, false, false] rfl rfl (any_of HT_.out (by kernel_rfl)) (fun _ _ _ h => h) (Or.inl ⟨by rfl, ?_⟩) ?_ ?_
            rotate_left
            · intro w'
              go_simp
              with_reducible rfl
            rotate_left
            · simp only [Act.put, List.setIfInBounds_toArray, List.set_cons_zero, List.set_cons_succ, i64_w, i32_w]
              rfl
            refine pure_ (i := 6) (N := some 138) (v := ?_) (a' := ?_) #[true, true, true, true, true, true, true, false, false, false, false, false, false, false, false, false, false, false, false, false, false, false, false, false, false, false, false, false, false, false] rfl rfl (any_of HT_.out (by kernel_rfl)) (fun _ _ _ h => h) (Or.inl ⟨by rfl, ?_⟩) ?_ ?_
            rotate_left
            · intro w'
              go_simp
              with_reducible rfl
            rotate_left
            · simp only [Act.put, List.setIfInBounds_toArray, List.set_cons_zero, List.set_cons_succ, i64_w, i32_w]
              rfl
            refine pure_ (i := 7) (N := some 139) (v := ?_) (a' := ?_) #[true, true, true, true, true, true, true, true, false, false, false, false, false, false, false, false, false, false, false, false, false, false, false, false, false, false, false, false, false, false] rfl rfl (any_of HT_.out (by kernel_rfl)) (fun _ _ _ h => h) (Or.inl ⟨by rfl, ?_⟩) ?_ ?_
            rotate_left
            · intro w'
              go_simp
              with_reducible rfl
            rotate_left
            · simp only [Act.put, List.setIfInBounds_toArray, List.set_cons_zero, List.set_cons_succ, i64_w, i32_w]
              rfl
            refine take_ (i := 8) (N := some 140) (v := ?_) (a' := ?_) #[true, true, true, true, true, true, true, true, true, false, false, false, false, false, false, false, false, false, false, false, false, false, false, false, false, false, false, false, false, false] rfl rfl (take_ofW HT_.out HW_.out (by kernel_rfl)) (fun _ _ _ h => h) (Or.inl ⟨by rfl, ?_⟩) hHeld ?_ ?_
            rotate_left
            · rintro w' ⟨s0, s1, s2, s3, s4⟩
              go_simp
              with_reducible rfl
            rotate_left
            · simp only [Act.put, List.setIfInBounds_toArray, List.set_cons_zero, List.set_cons_succ, i64_w, i32_w]
              rfl
            refine pure_ (i := 9) (N := some 141) (v := ?_) (a' := ?_) #[true, true, true, true, true, true, true, true, true, true, false, false, false, false, false, false, false, false, false, false, false, false, false, false, false, false, false, false, false, false] rfl rfl (any_of HT_.out (by kernel_rfl)) (fun _ _ _ h => h) (Or.inl ⟨by rfl, ?_⟩) ?_ ?_
            rotate_left
            · intro w'
              go_simp
              with_reducible rfl
            rotate_left
            · simp only [Act.put, List.setIfInBounds_toArray, List.set_cons_zero, List.set_cons_succ, i64_w, i32_w]
              rfl
            refine pure_ (i := 10) (N := some 142) (v := ?_) (a' := ?_) #[true, true, true, true, true, true, true, true, true, true, true, false, false, false, false, false, false, false, false, false, false, false, false, false, false, false, false, false, false, false] rfl rfl (any_of HT_.out (by kernel_rfl)) (fun _ _ _ h => h) (Or.inl ⟨by rfl, ?_⟩) ?_ ?_
            rotate_left
            · intro w'
              go_simp
              with_reducible rfl
            rotate_left
            · simp only [Act.put, List.setIfInBounds_toArray, List.set_cons_zero, List.set_cons_succ, i64_w, i32_w]
              rfl
            refine pure_ (i := 11) (N := some 143) (v := ?_) (a' := ?_) #[true, true, true, true, true, true, true, true, true, true, true, true, false, false, false, false, false, false, false, false, false, false, false, false, false, false, false, false, false, false] rfl rfl (any_of HT_.out (by kernel_rfl)) (fun _ _ _ h => h) (Or.inl ⟨by rfl, ?_⟩) ?_ ?_
            rotate_left
            · intro w'
              go_simp
              with_reducible rfl
            rotate_left
            · simp only [Act.put, List.setIfInBounds_toArray, List.set_cons_zero, List.set_cons_succ, i64_w, i32_w]
              rfl
            refine take_ (i := 12) (N := some 144) (v := ?_) (a' := ?_) #[true, true, true, true, true, true, true, true, true, true, true, true, true, false, false, false, false, false, false, false, false, false, false, false, false, false, false, false, false, false] rfl rfl (take_ofW HT_.out HW_.out (by kernel_rfl)) (fun _ _ _ h => h) (Or.inl ⟨by rfl, ?_⟩) hHeld ?_ ?_
            rotate_left
            · rintro w' ⟨s0, s1, s2, s3, s4⟩
              go_simp
              with_reducible rfl
            rotate_left
            · simp only [Act.put, List.setIfInBounds_toArray, List.set_cons_zero, List.set_cons_succ, i64_w, i32_w]
              rfl
            refine pure_ (i := 13) (N := some 145) (v := ?_) (a' := ?_) #[true, true, true, true, true, true, true, true, true, true, true, true, true, true, false, false, false, false, false, false, false, false, false, false, false, false, false, false, false, false] rfl rfl (any_of HT_.out (by kernel_rfl)) (fun _ _ _ h => h) (Or.inl ⟨by rfl, ?_⟩) ?_ ?_
            rotate_left
            · intro w'
              go_simp
              with_reducible rfl
            rotate_left
            · simp only [Act.put, List.setIfInBounds_toArray, List.set_cons_zero, List.set_cons_succ, i64_w, i32_w]
              rfl
            refine pure_ (i := 14) (N := some 146) (v := ?_) (a' := ?_) #[true, true, true, true, true, true, true, true, true, true, true, true, true, true, true, false, false, false, false, false, false, false, false, false, false, false, false, false, false, false] rfl rfl (any_of HT_.out (by kernel_rfl)) (fun _ _ _ h => h) (Or.inl ⟨by rfl, ?_⟩) ?_ ?_
            rotate_left
            · intro w'
              go_simp
              with_reducible rfl
            rotate_left
            · simp only [Act.put, List.setIfInBounds_toArray, List.set_cons_zero, List.set_cons_succ, i64_w, i32_w]
              rfl
            refine pure_ (i := 15) (N := some 147) (v := ?_) (a' := ?_) #[true, true, true, true, true, true, true, true, true, true, true, true, true, true, true, true, false, false, false, false, false, false, false, false, false, false, false, false, false, false] rfl rfl (any_of HT_.out (by kernel_rfl)) (fun _ _ _ h => h) (Or.inl ⟨by rfl, ?_⟩) ?_ ?_
            rotate_left
            · intro w'
              go_simp
              with_reducible rfl
            rotate_left
            · simp only [Act.put, List.setIfInBounds_toArray, List.set_cons_zero, List.set_cons_succ, i64_w, i32_w]
              rfl
            refine take_ (i := 16) (N := some 148) (v := ?_) (a' := ?_) #[true, true, true, true, true, true, true, true, true, true, true, true, true, true, true, true, true, false, false, false, false, false, false, false, false, false, false, false, false, false] rfl rfl (take_ofW HT_.out HW_.out (by kernel_rfl)) (fun _ _ _ h => h) (Or.inl ⟨by rfl, ?_⟩) hHeld ?_ ?_
            rotate_left
            · rintro w' ⟨s0, s1, s2, s3, s4⟩
              go_simp
              with_reducible rfl
            rotate_left
            · simp only [Act.put, List.setIfInBounds_toArray, List.set_cons_zero, List.set_cons_succ, i64_w, i32_w]
              rfl
            refine pure_ (i := 17) (N := some 149) (v := ?_) (a' := ?_) #[true, true, true, true, true, true, true, true, true, true, true, true, true, true, true, true, true, true, false, false, false, false, false, false, false, false, false, false, false, false] rfl rfl (any_of HT_.out (by kernel_rfl)) (fun _ _ _ h => h) (Or.inl ⟨by rfl, ?_⟩) ?_ ?_
            rotate_left
            · intro w'
              go_simp
              with_reducible rfl
            rotate_left
            · simp only [Act.put, List.setIfInBounds_toArray, List.set_cons_zero, List.set_cons_succ, i64_w, i32_w]
              rfl
            refine pure_ (i := 18) (N := some 150) (v := ?_) (a' := ?_) #[true, true, true, true, true, true, true, true, true, true, true, true, true, true, true, true, true, true, true, false, false, false, false, false, false, false, false, false, false, false] rfl rfl (any_of HT_.out (by kernel_rfl)) (fun _ _ _ h => h) (Or.inl ⟨by rfl, ?_⟩) ?_ ?_
            rotate_left
            · intro w'
              go_simp
              with_reducible rfl
            rotate_left
            · simp only [Act.put, List.setIfInBounds_toArray, List.set_cons_zero, List.set_cons_succ, i64_w, i32_w]
              rfl
            refine pure_ (i := 19) (N := some 151) (v := ?_) (a' := ?_) #[true, true, true, true, true, true, true, true, true, true, true, true, true, true, true, true, true, true, true, true, false, false, false, false, false, false, false, false, false, false] rfl rfl (any_of HT_.out (by kernel_rfl)) (fun _ _ _ h => h) (Or.inl ⟨by rfl, ?_⟩) ?_ ?_
            rotate_left
            · intro w'
              go_simp
              with_reducible rfl
            rotate_left
            · simp only [Act.put, List.setIfInBounds_toArray, List.set_cons_zero, List.set_cons_succ, i64_w, i32_w]
              rfl
            refine take_ (i := 20) (N := some 152) (v := ?_) (a' := ?_) #[true, true, true, true, true, true, true, true, true, true, true, true, true, true, true, true, true, true, true, true, true, false, false, false, false, false, false, false, false, false] rfl rfl (take_ofW HT_.out HW_.out (by kernel_rfl)) (fun _ _ _ h => h) (Or.inl ⟨by rfl, ?_⟩) hHeld ?_ ?_
            rotate_left
            · rintro w' ⟨s0, s1, s2, s3, s4⟩
              go_simp
              with_reducible rfl
            rotate_left
            · simp only [Act.put, List.setIfInBounds_toArray, List.set_cons_zero, List.set_cons_succ, i64_w, i32_w]
              rfl
            refine pure_ (i := 21) (N := some 153) (v := ?_) (a' := ?_) #[true, true, true, true, true, true, true, true, true, true, true, true, true, true, true, true, true, true, true, true, true, true, false, false, false, false, false, false, false, false] rfl rfl (any_of HT_.out (by kernel_rfl)) (fun _ _ _ h => h) (Or.inl ⟨by rfl, ?_⟩) ?_ ?_
            rotate_left
            · intro w'
              go_simp
              with_reducible rfl
            rotate_left
            · simp only [Act.put, List.setIfInBounds_toArray, List.set_cons_zero, List.set_cons_succ, i64_w, i32_w]
              rfl
            refine pure_ (i := 22) (N := some 154) (v := ?_) (a' := ?_) #[true, true, true, true, true, true, true, true, true, true, true, true, true, true, true, true, true, true, true, true, true, true, true, false, false, false, false, false, false, false] rfl rfl (any_of HT_.out (by kernel_rfl)) (fun _ _ _ h => h) (Or.inl ⟨by rfl, ?_⟩) ?_ ?_
            rotate_left
            · intro w'
              go_simp
              with_reducible rfl
            rotate_left
            · simp only [Act.put, List.setIfInBounds_toArray, List.set_cons_zero, List.set_cons_succ, i64_w, i32_w]
              rfl
            refine pure_ (i := 23) (N := some 155) (v := ?_) (a' := ?_) #[true, true, true, true, true, true, true, true, true, true, true, true, true, true, true, true, true, true, true, true, true, true, true, true, false, false, false, false, false, false] rfl rfl (any_of HT_.out (by kernel_rfl)) (fun _ _ _ h => h) (Or.inl ⟨by rfl, ?_⟩) ?_ ?_
            rotate_left
            · intro w'
              go_simp
              with_reducible rfl
            rotate_left
            · simp only [Act.put, List.setIfInBounds_toArray, List.set_cons_zero, List.set_cons_succ, i64_w, i32_w]
              rfl
            refine take_ (i := 24) (N := some 156) (v := ?_) (a' := ?_) #[true, true, true, true, true, true, true, true, true, true, true, true, true, true, true, true, true, true, true, true, true, true, true, true, true, false, false, false, false, false] rfl rfl (take_ofW HT_.out HW_.out (by kernel_rfl)) (fun _ _ _ h => h) (Or.inl ⟨by rfl, ?_⟩) hHeld ?_ ?_
            rotate_left
            · rintro w' ⟨s0, s1, s2, s3, s4⟩
              go_simp
              with_reducible rfl
            rotate_left
            · simp only [Act.put, List.setIfInBounds_toArray, List.set_cons_zero, List.set_cons_succ, i64_w, i32_w]
              rfl
            refine pure_ (i := 25) (N := some 157) (v := ?_) (a' := ?_) #[true, true, true, true, true, true, true, true, true, true, true, true, true, true, true, true, true, true, true, true, true, true, true, true, true, true, false, false, false, false] rfl rfl (any_of HT_.out (by kernel_rfl)) (fun _ _ _ h => h) (Or.inl ⟨by rfl, ?_⟩) ?_ ?_
            rotate_left
            · intro w'
              go_simp
              with_reducible rfl
            rotate_left
            · simp only [Act.put, List.setIfInBounds_toArray, List.set_cons_zero, List.set_cons_succ, i64_w, i32_w]
              rfl
            refine pure_ (i := 26) (N := some 158) (v := ?_) (a' := ?_) #[true, true, true, true, true, true, true, true, true, true, true, true, true, true, true, true, true, true, true, true, true, true, true, true, true, true, true, false, false, false] rfl rfl (any_of HT_.out (by kernel_rfl)) (fun _ _ _ h => h) (Or.inl ⟨by rfl, ?_⟩) ?_ ?_
            rotate_left
            · intro w'
              go_simp
              with_reducible rfl
            rotate_left
            · simp only [Act.put, List.setIfInBounds_toArray, List.set_cons_zero, List.set_cons_succ, i64_w, i32_w]
              rfl
            refine pure_ (i := 27) (N := some 159) (v := ?_) (a' := ?_) #[true, true, true, true, true, true, true, true, true, true, true, true, true, true, true, true, true, true, true, true, true, true, true, true, true, true, true, true, false, false] rfl rfl (any_of HT_.out (by kernel_rfl)) (fun _ _ _ h => h) (Or.inl ⟨by rfl, ?_⟩) ?_ ?_
            rotate_left
            · intro w'
              go_simp
              with_reducible rfl
            rotate_left
            · simp only [Act.put, List.setIfInBounds_toArray, List.set_cons_zero, List.set_cons_succ, i64_w, i32_w]
              rfl
            refine pure_ (i := 28) (N := some 160) (v := ?_) (a' := ?_) #[true, true, true, true, true, true, true, true, true, true, true, true, true, true, true, true, true, true, true, true, true, true, true, true, true, true, true, true, true, false] rfl rfl (any_of HT_.out (by kernel_rfl)) (fun _ _ _ h => h) (Or.inl ⟨by rfl, ?_⟩) ?_ ?_
            rotate_left
            · intro w'
              go_simp
              with_reducible rfl
            rotate_left
            · simp only [Act.put, List.setIfInBounds_toArray, List.set_cons_zero, List.set_cons_succ, i64_w, i32_w]
              rfl
            refine last_ (i := 29) (N := none) #[true, true, true, true, true, true, true, true, true, true, true, true, true, true, true, true, true, true, true, true, true, true, true, true, true, true, true, true, true, true] rfl rfl (one_of HT_.out (by kernel_rfl)) (by decide) (fun K hK => ?_)
            obtain ⟨⟨x0, hx0⟩, hfr⟩ := HLP.out.ha m (of_eq_true p5)
            refine skip_ (w1 := ?_) (by rfl) rfl ?_ ?_
            rotate_left
            · go_simp
              rfl
            refine hK.out _ _ ?_
            have nLP := HLP.out.setHi HMW.out (of_eq_true p5)
            rw [← HHI0.out] at nLP
            obtain ⟨wy, hwn⟩ : ∃ w, w = wd.setCell ⟨gh, m, none⟩ (.int .i64 hi0) := ⟨_, rfl⟩
            rw [← hwn] at nLP
            rw [← hwn]
            clear hwn hx0 hfr x0 HLP
            have HLP := Lib.hid nLP
            clear nLP
            clear hK K
            refine done_ (done_of HT_.out (by kernel_rfl)) ?_
            clear HS19 hHeld
            try go_wp2
            go_roundg m
            case measure => clear e1 e2 e3 e4 e5 e6; have := HKM.out; omega
            case rel => exact ⟨m, rfl, Nat.le_of_succ_le hmn2, rfl, ⟨HLP.out⟩⟩
          | zero =>
            have hz : (((0 : Nat) : Int) - 1) = -1 := by omega
            rw [hz]
            clear hz
            have hsok := slots_ok hvB
            rw [← HSL.out, ← HSLE.out] at hsok
            have hrkb : 0 ≤ rk ∧ rk ≤ 2000 := by rw [HRK.out]; omega
            have hok := HLP0.out.cx_ok HNL.out hn0 hn1 hrkb.1 hrkb.2 hsok
            have hinv := HLP0.out.inv HMW.out HMB.out hGM HN1.out HNL.out
            have hj0 : J (fun k => W.heap.size ≤ k ∧ k < wr.heap.size) [] wr := hJ _ _ _ _ _ H0.out (StepT.of_below HLP0.out.bel) ⟨fun _ h => h.elim, fun k hk => .inr hk.1⟩
            obtain ⟨C, hC⟩ : ∃ C, C = cxOf sl rk B G gl gh L l c2 wr N1 := ⟨_, rfl⟩
            rw [← hC] at hok hinv
            have hslot := sea_slot C hok (allO vars bv bl bi) J Jx hJ hJx (hY C (by rw [hC]; rfl)) sl
            have hCs : C.sl = sl := by rw [hC]; rfl
            have hCr : C.rk = rk := by rw [hC]; rfl
            have hCB : C.B = B := by rw [hC]; rfl
            have hcst : ∀ (T : Nat → Prop) (w' : World) (rows : List (List Int)), Inv C T w' rows → w'.cell? ⟨B, 3, none⟩ = some (.slice (some ⟨gh, 0, none⟩) (n + 1) N1) ∧ w'.cell? ⟨gh, 0, none⟩ = some (.int .i64 (highOf rk sl)) := by
              intro T w' rows h
              have h1 := h.c.cell.2.2.2.1
              have h2 := h.c.hi_ 0 (Nat.zero_le _)
              rw [hC] at h1 h2
              refine ⟨?_, h2⟩
              rw [← HNL.out]; exact h1
            have hlb := lowOf_ok hsok
            have hhb := highOf_ok hrkb.1 hrkb.2 hsok
            have hnl := HNL.out
            obtain ⟨m0, hm0⟩ : ∃ x : Int, x = lowOf sl := ⟨_, rfl⟩
            obtain ⟨m1, hm1⟩ : ∃ x : Int, x = highOf rk sl := ⟨_, rfl⟩
            rw [← hm0] at hlb
            rw [← hm1] at hhb
            obtain ⟨F, hF⟩ : ∃ F, F = slotO rk sl := ⟨_, rfl⟩
            obtain ⟨rs, hrs⟩ : ∃ rs, rs = irange m0 m1 := ⟨_, rfl⟩
            have hall : allO vars bv bl bi = rs.flatMap F := by
              unfold allO
              rw [if_pos hvB, ← HSL.out, ← HSLE.out, ← HRK.out, hF, hrs, hm0, hm1]
            have hcount : ∀ j : Nat, j < rs.length ↔ m0 + (j : Int) ≤ m1 := fun j => by rw [hrs, irange_length]; omega
            have hget : ∀ (j : Nat) (h : j < rs.length), rs[j] = m0 + (j : Int) := fun j h => by subst hrs; exact irange_get _ _ j h
            have hstp : ∀ (j : Nat), j < rs.length → m0 + (j : Int) ≤ m1 ∧ wrap64 (m0 + (j : Int) + 1) = m0 + ((j + 1 : Nat) : Int) ∧ 0 ≤ m0 + (j : Int) ∧ m0 + (j : Int) ≤ 1099511627776 := fun j hjl => by
              have h1 := (hcount j).1 hjl
              refine ⟨by omega, ?_, by omega, by omega⟩
              rw [wrap64_of' (by omega) (by omega)]; omega
            have hend : ¬ m0 + (rs.length : Int) ≤ m1 := mt (hcount rs.length).2 (Nat.lt_irrefl _)
            have hcall : ∀ (j : Nat) (T : Nat → Prop) (w' : World), j < rs.length → J T ((rs.take j).flatMap F) w' → Inv C T w' (List.replicate sl.length []) → Calls Try.prog 33 #[.pointer (some ⟨B, 0, none⟩), .int .i64 0, .int .i64 (m0 + (j : Int))] w' fun e W' => SPost C J Jx ((rs.take j).flatMap F) (F (m0 + (j : Int))) (List.replicate sl.length []) e W' := by
              intro j T w' hj h1 h2
              have e1 : (slotO C.rk sl (m0 + (j : Int))).map (fun q => ([] : List (List Int)) ++ q) = F (m0 + (j : Int)) := by rw [hCr, hF]; simp
              have hpx : ((rs.take j).flatMap F ++ (slotO C.rk sl (m0 + (j : Int))).map fun q => ([] : List (List Int)) ++ q) <+: allO vars bv bl bi := by
                rw [e1, hall]
                have h := pre_flat (L := rs.flatMap F) (done := []) (f := F) (by simp) j hj
                rw [hget j hj] at h
                simpa using h
              have h := hslot [] (m0 + (j : Int)) T w' ((rs.take j).flatMap F) (by rw [hCs]; rfl) (by rw [hCs]; simp) (by simp) (hstp j hj).2.2.1 (hstp j hj).2.2.2 hpx h1 (by simpa using h2)
              rw [e1, hCB] at h
              exact h
            have HCALL := Lib.hid hcall
            have HCST := Lib.hid hcst
            have HSTP := Lib.hid hstp
            have HEND := Lib.hid hend
            have HGET := Lib.hid hget
            have HALL := Lib.hid hall
            have xlo := HLP0.out.lc 0 (Nat.le_refl _) (Nat.zero_le _)
            rw [List.drop_zero, ← hm0] at xlo
            have b2 := HLP0.out.box.c2
            have p1 : (0 < N1) = True := eq_true (by have := HN1.out; omega)
            have p2 : ((0 : Int) < (N1 : Int)) = True := eq_true (by have := HN1.out; omega)
            have HJ0 := Lib.hid hj0
            have HINV := Lib.hid hinv
            have HM1 := Lib.hid hm1
            clear hsok hrkb hok hslot hCs hCr hCB hcst hlb hhb hnl hF hrs hall hcount hget hstp hend hcall hj0 hinv hm0 hm1 hC hmn HLP0
            go_wp2_with (fail)
            go_loopg [9] rs.length (fun kq v9 wz => ∃ (j : Nat) (T' : Nat → Prop), kq + j = rs.length ∧ v9 = .int .i64 (m0 + (j : Int)) ∧ Aside0 (J T' ((rs.take j).flatMap F) wz) ∧ Aside0 (Inv C T' wz (List.replicate sl.length [])))
            case atStart => exact ⟨0, _, rfl, by simp, ⟨by simpa using HJ0.out⟩, ⟨HINV.out⟩⟩
            case round =>
              clear HJ0 HINV b2 xlo p1 p2
              obtain ⟨j, T', hkj, rfl, HJ, HI⟩ := hrel
              obtain ⟨b3, xhi⟩ := HCST.out _ _ _ HI.out
              rw [← HM1.out] at xhi
              by_cases hjl : j < rs.length
              · obtain ⟨g1, g2, g3, g4⟩ := HSTP.out j hjl
                have hca := HCALL.out j T' _ hjl HJ.out HI.out
                obtain ⟨rj, hrj⟩ : ∃ rj : Int, rj = m0 + (j : Int) := ⟨_, rfl⟩
                rw [← hrj] at g1 g2 hca ⊢
                have d1 : decide (rj ≤ m1) = true := decide_eq_true g1
                have HCA := Lib.hid hca
                have G2 := Lib.hid g2
                have HRJ := Lib.hid hrj
                have HKJ := Lib.hid hkj
                have HJL := Lib.hid hjl
                clear g1 g2 g3 g4 hrj hkj hjl hca HJ HI
                go_wp2_with (fail)
                refine HCA.out.mono ?_
                rintro e W3 ⟨b, T3, rfl, hres, hinv⟩
                have HRES := Lib.hid hres
                have HI5 := Lib.hid hinv
                clear hres hinv
                cases b with
                | true =>
                  go_wp2
                  go_roundg (rs.length - (j + 1))
                  case measure => have := HKJ.out; have := HJL.out; omega
                  case rel =>
                    refine ⟨j + 1, T3, by have := HKJ.out; have := HJL.out; omega, by rw [G2.out], ⟨?_⟩, ⟨HI5.out⟩⟩
                    rw [flat_take rs F j HJL.out, HGET.out j HJL.out, ← HRJ.out]
                    have h9 := (show Res J Jx ([] ++ (rs.take j).flatMap F) (F rj) true T3 W3 from HRES.out).thru
                    simpa using h9
                | false =>
                  have hr9 := (show Res J Jx ([] ++ (rs.take j).flatMap F) (F rj) false T3 W3 from HRES.out).stop (rest := (rs.drop (j + 1)).flatMap F)
                  rw [HRJ.out, ← HGET.out j HJL.out, ← flat_all rs F j HJL.out, ← HALL.out] at hr9
                  have HR9 := Lib.hid hr9
                  clear hr9
                  go_wp2
                  refine bodyPost_ret (results_none rfl _ _ _) rfl ?_
                  rcases HR9.out with ⟨hb, _⟩ | ⟨_, k, hk, hx⟩
                  · cases hb
                  · exact ⟨⟨_, rfl⟩, .inr ⟨T3, _, ⟨k, hk, rfl⟩, by simpa using hx⟩⟩
              · obtain ⟨rj, hrj⟩ : ∃ rj : Int, rj = m0 + (j : Int) := ⟨_, rfl⟩
                have hje : j = rs.length := by omega
                have hend := HEND.out
                rw [← hje, ← hrj] at hend
                rw [← hrj]
                have d1 : decide (rj ≤ m1) = false := decide_eq_false (by omega)
                have hfin : J T' (allO vars bv bl bi) wr := by
                  have h1 := HJ.out
                  rw [hje, List.take_of_length_le (Nat.le_refl _), ← HALL.out] at h1
                  exact h1
                have HFIN := Lib.hid hfin
                clear hfin hrj hje hjl hkj hend
                go_wp2
                go_end0
                exact ⟨⟨_, rfl⟩, .inl ⟨T', _, rfl, HFIN.out⟩⟩
end Go.Proofs.Ytgcdeablfoomhaa.PAll
end
section
set_option linter.unusedVariables false
set_option linter.unusedSimpArgs false
namespace Go.Proofs.Ytgcdeablfoomhaa.PAll
open Go.RowKit Go.Proofs.YtgcdeablfoomhaaW.PrintWords Go.Proofs.YtgcdeablfoomhaaW.PrintLast Go.Proofs.YtgcdeablfoomhaaW.PrintMore
set_option maxRecDepth 100000 in
set_option maxHeartbeats 8000000 in
theorem all_bad (vars : List S48) (bv bl bi : Int) (A0 : Option Addr) (c0 : Nat) (Bv Bb l : Nat) (W : World) (hvB : validB vars bv bl bi = false)
    (hv : W.cell? ⟨Bv, 0, none⟩ = some (.slice A0 vars.length c0)) (hc0 : vars.length ≤ c0) (hr : Kd.C k48 W A0 vars.length vars)
    (hb0 : W.cell? ⟨Bb, 0, none⟩ = some (.int .i64 bv)) (hb1 : W.cell? ⟨Bb, 1, none⟩ = some (.int .i64 bl)) (hb2 : W.cell? ⟨Bb, 2, none⟩ = some (.int .i64 bi)) :
    Calls Try.prog 31 #[.func (.yield l) #[] #[], .pointer (some ⟨Bv, 0, none⟩), .pointer (some ⟨Bb, 0, none⟩)] W fun e W' => (∃ v, e = .returned v) ∧ Below W.heap.size W W' := by
  obtain ⟨kv, hkv⟩ := valid_f vars bv bl bi
  rw [hvB] at hkv
  have HR := Lib.hid hr
  have HKV := Lib.hid hkv
  clear hr hkv
  go_enter Try.func31, Try.ntmps31
  go_wp2_with (fail)
  refine (enumerate_valid.calls kv A0 c0 vars bv bl bi false W HR.out hc0 HKV.out).mono ?_
  rintro e w1 ⟨rfl, hb⟩
  have HB1 := Lib.hid hb
  clear hb
  go_wp2
  refine bodyPost_ret (results_none rfl _ _ _) rfl ?_
  exact ⟨⟨_, rfl⟩, HB1.out⟩
theorem cell_of_heap {w : World} {b i : Nat} {c : Array Value} {t : TypeId} {v : Value} (h : w.heap[b]? = some (.cells c t (0, 0))) (hv : c[i]? = some v) : w.cell? ⟨b, i, none⟩ = some v := by
  simp [World.cell?, h, hv]
/-- The states of a box, as_ a range meets them. -/
theorem seq_all (vars : List S48) (bv bl bi : Int) (A0 : Option Addr) (c0 : Nat) (Bv Bb : Nat) (w : World)
    (hv : w.cell? ⟨Bv, 0, none⟩ = some (.slice A0 vars.length c0)) (hc0 : vars.length ≤ c0) (hr : Kd.C k48 w A0 vars.length vars)
    (hb0 : w.cell? ⟨Bb, 0, none⟩ = some (.int .i64 bv)) (hb1 : w.cell? ⟨Bb, 1, none⟩ = some (.int .i64 bl)) (hb2 : w.cell? ⟨Bb, 2, none⟩ = some (.int .i64 bi)) :
    SeqT Try.prog 31 #[.pointer (some ⟨Bv, 0, none⟩), .pointer (some ⟨Bb, 0, none⟩)] encS GS (fun q => q <+: allO vars bv bl bi) (fun xs => xs = allO vars bv bl bi) (fun pre => ∃ k, k < (allO vars bv bl bi).length ∧ pre = (allO vars bv bl bi).take (k + 1)) w := by
  intro l J Jx W hbe hJ hJx hY h0
  have mv : ∀ {a : Addr} {x : Value}, w.cell? a = some x → W.cell? a = some x := fun h => (hbe.cell (World.block_lt_of_cell? _ _ h)).trans h
  have hr' := Kd.C_below hr hbe
  cases hvB : validB vars bv bl bi with
  | true => exact all_setup vars bv bl bi A0 c0 Bv Bb l W hvB (mv hv) hc0 hr' (mv hb0) (mv hb1) (mv hb2) J Jx hJ hJx (fun C hC => by subst hC; exact hY) h0
  | false =>
    refine (all_bad vars bv bl bi A0 c0 Bv Bb l W hvB (mv hv) hc0 hr' (mv hb0) (mv hb1) (mv hb2)).mono ?_
    rintro e W' ⟨he, hb⟩
    refine ⟨he, .inl ⟨_, [], ?_, hJ _ _ _ _ _ h0 (StepT.of_below hb) (Grows.refl _ _)⟩⟩
    unfold allO; rw [hvB]; rfl
set_option maxRecDepth 100000 in
set_option maxHeartbeats 8000000 in
theorem all_calls (A0 : Option Addr) (n c0 : Nat) (bv bl bi : Int) (W : World) :
    Calls Try.prog 14 #[.slice A0 n c0, .agg #[.int .i64 bv, .int .i64 bl, .int .i64 bi]] W fun e w' => ∃ Bv Bb, e = .returned (.func (.func 31) #[] #[.pointer (some ⟨Bv, 0, none⟩), .pointer (some ⟨Bb, 0, none⟩)]) ∧
      w'.cell? ⟨Bv, 0, none⟩ = some (.slice A0 n c0) ∧ w'.cell? ⟨Bb, 0, none⟩ = some (.int .i64 bv) ∧ w'.cell? ⟨Bb, 1, none⟩ = some (.int .i64 bl) ∧ w'.cell? ⟨Bb, 2, none⟩ = some (.int .i64 bi) ∧ Below W.heap.size W w' := by
  go_enter Try.func14, Try.ntmps14
  have h1 : ∀ o o' : Obj, ((W.alloc o).alloc o').heap[W.heap.size]? = some o := fun o o' => blk_alloc (World.alloc_heap_new W _) _
  have h2 : ∀ o o' : Obj, ((W.alloc o).alloc o').heap[W.heap.size + 1]? = some o' := fun o o' => by have := World.alloc_heap_new (W.alloc o) o'; rwa [World.size_alloc] at this
  have H1 := Lib.hid h1
  have H2 := Lib.hid h2
  clear h1 h2
  go_wp2
  go_ret
  exact ⟨W.heap.size, W.heap.size + 1, rfl, cell_of_heap (H1.out _ _) rfl, cell_of_heap (H2.out _ _) rfl, cell_of_heap (H2.out _ _) rfl, cell_of_heap (H2.out _ _) rfl, (below_alloc (Below.refl _ _) _).trans ((below_alloc (Below.refl _ _) _).mono (by simp))⟩
end Go.Proofs.Ytgcdeablfoomhaa.PAll
end
section
set_option linter.unusedVariables false
set_option linter.unusedSimpArgs false
namespace Go.Proofs.Ytgcdeablfoomhaa.PAll
open Go.RowKit Go.Proofs.YtgcdeablfoomhaaW.PrintWords Go.Proofs.YtgcdeablfoomhaaW.PrintLast Go.Proofs.YtgcdeablfoomhaaW.PrintMore
section
variable {P : Program} {ops : Array Oper} {Q : Exit → Act → World → Prop} {md : Region.Mode}
def noDefer (ops : Array Oper) : Bool := ops.all fun o => match o.op with | .defer _ => false | _ => true
theorem noDefer_spec (h : noDefer ops = true) {i : Nat} {o : Oper} (hi : ops[i]? = some o) : ∀ c, o.op ≠ .defer c := by
  intro c hc
  unfold noDefer at h
  rw [Array.all_eq_true] at h
  obtain ⟨hlt, ho⟩ := Array.getElem?_eq_some_iff.1 hi
  have := h i hlt
  rw [ho, hc] at this
  cases this
theorem wpOpIn_of_wpOp (l m : Nat) (hno : ¬ LetsOut Q) (hd : noDefer ops = true) {i : Nat} {K : Act → World → Prop} {a : Act} {w : World} (h : wpOp P ops Q i K a w) : wpOpIn (Fence.wide.inRound l) m P ops Q i K a w := by
  unfold wpOp at h
  unfold wpOpIn
  cases hi : ops[i]? with
  | none => rw [hi] at h; exact h
  | some o =>
    rw [hi] at h
    dsimp only at h ⊢
    split
    · rename_i hw
      rw [if_pos hw] at h
      replace h := h.resolve_right (fun h => hno h.2)
      refine ⟨fun _ _ => trivial, ?_⟩
      rw [show (Fence.wide.inRound l).round = some l from rfl, Oper.semAt_eq _ _ _ (noDefer_spec hd hi)]
      unfold Oper.wp at h
      generalize (execOp a.eval o).run P w = r at *
      cases r with
      | ok x w' =>
        cases x <;> simp only [Oper.upon, Oper.uponIn] at h ⊢ <;> first
          | exact h
          | exact ⟨fun hd => by simp [Fence.inRound, Fence.wide] at hd, callsIn_wide.2 h⟩
          | (refine ⟨fun hd => by simp [Fence.inRound, Fence.wide] at hd, ?_⟩
             intro c cs hroom
             obtain ⟨v, w2, h1, h2⟩ := h c cs
             exact ⟨v, w2, h1, stepsIn_wide.2 h2⟩)
      | halt x w' => cases x <;> simp only [Oper.upon, Oper.uponIn] at h ⊢ <;> exact h
    · rename_i hw
      rw [if_neg hw] at h
      exact ⟨fun _ _ => trivial, h⟩
theorem wpAnyIn_of_wpAny (l m : Nat) (hno : ¬ LetsOut Q) (hd : noDefer ops = true) : ∀ (fuel : Nat) (listed : Array Bool) (a : Act) (w : World), wpAny P md ops Q fuel listed a w → wpAnyIn (Fence.wide.inRound l) m P md ops Q fuel listed a w
  | 0, _, _, _, h => h
  | fuel + 1, _, _, _, h => ⟨h.1, fun i hi => wpOpIn_mono (fun a' w' h' => wpAnyIn_of_wpAny l m hno hd fuel _ a' w' h') (wpOpIn_of_wpOp l m hno hd (h.2 i hi))⟩
/-- 'start_' within a round. -/
theorem startR_ {id n lp m : Nat} {S : World → Prop} {ds : List Nat} {a : Act} {w : World} (l : Array Bool) (hno : ¬ LetsOut Q) (hm : P.follows .mixedOrders = true) (hd : noDefer ops = true) (hn : ops.size = n) (hl : Array.replicate n false = l) (hS : S w.drew)
    (h : S w.drew → wpAnyLast P .any ops Q S ds n l a w.drew) : (Code.region id ops true).wpIn (Fence.wide.inRound lp) m P Q a w := by
  subst hn
  subst hl
  exact wpIn_region_any hm (wpAnyIn_of_wpAny lp m hno hd _ _ _ _ (wpAny_of_last _ _ _ _ (h hS)))
/-- 'start_' inside the wide fence. -/
theorem startW_ {id n m : Nat} {S : World → Prop} {ds : List Nat} {a : Act} {w : World} (l : Array Bool) (hm : P.follows .mixedOrders = true) (hn : ops.size = n) (hl : Array.replicate n false = l) (hS : S w.drew)
    (h : S w.drew → wpAnyLast P .any ops Q S ds n l a w.drew) : (Code.region id ops true).wpIn Fence.wide m P Q a w := wpIn_wide.2 (start_ l hm hn hl hS h)
end
theorem R_put {α : Type} {d : Kd α} {e base : Nat} {ok : Nat → Prop} {W : World} {v : Value} {xs : List α} (h : d.R e W base ok v xs) {l : Nat} {o : Obj} (o' : Obj) (hl : W.heap[l]? = some o) (ho : o.isCells = false) : d.R e (W.putObj l o') base ok v xs := by
  refine Kd.R_mono (Kd.R_step (Kd.R_bound h) (fun k hk _ => World.putObj_heap_other (fun e => ?_))) (fun k hk => hk.1)
  obtain ⟨_, _, _, q, _, cells, hc⟩ := hk
  rw [e, hl] at hc
  injection hc with hc
  rw [hc] at ho
  cases ho
theorem GS_put {z : Nat} {x : List (List Int)} {y : Value × Value} {A : World} (h : GS z x y A) {l : Nat} {o : Obj} (o' : Obj) (hl : A.heap[l]? = some o) (ho : o.isCells = false) : GS z x y (A.putObj l o') := ⟨R_put h.1 o' hl ho, R_put h.2 o' hl ho⟩
theorem GS_below {z : Nat} {x : List (List Int)} {y : Value × Value} {A B : World} (h : GS z x y A) (hb : Below A.heap.size A B) : GS z x y B := ⟨Kd.R_below h.1 hb, Kd.R_below h.2 hb⟩
theorem GS_slices {z : Nat} {x : List (List Int)} {y : Value × Value} {A : World} (h : GS z x y A) : ∃ A1 n1 c1 A2 n2 c2, y = (.slice A1 n1 c1, .slice A2 n2 c2) := by
  obtain ⟨y0, y1⟩ := y
  obtain ⟨A1, c1, e1⟩ := Kd.R_slice h.1
  obtain ⟨A2, c2, e2⟩ := Kd.R_slice h.2
  dsimp only at e1 e2
  exact ⟨A1, _, c1, A2, _, c2, by rw [e1, e2]⟩
theorem box_put {W : World} {B : Nat} {cs : Array Value} {t : TypeId} (h : W.heap[B]? = some (.cells cs t (0, 0))) {l : Nat} {o : Obj} (o' : Obj) (hl : W.heap[l]? = some o) (ho : o.isCells = false) : (W.putObj l o').heap[B]? = some (.cells cs t (0, 0)) := by
  refine (World.putObj_heap_other (fun e => ?_)).trans h
  rw [e, hl] at h
  injection h with h
  rw [h] at ho
  cases ho
/-- The loop variable in its box; a₁ Bx y: the slots. -/
def AxS (a₁ : Nat → Value × Value → Act) (z : Nat) (x : List (List Int)) (y : Value × Value) (a' : Act) (A : World) : Prop := ∃ Bx, z ≤ Bx ∧ BoxA A Bx y.1 y.2 nil3 ∧ GS z x y A ∧ a' = a₁ Bx y
theorem AxS_put {a₁ : Nat → Value × Value → Act} : ∀ z x y a' A l o o', AxS a₁ z x y a' A → l < z → A.heap[l]? = some o → o.isCells = false → AxS a₁ z x y a' (A.putObj l o') := by
  rintro z x y a' A l o o' ⟨Bx, h1, h2, h3, h4⟩ _ hl ho
  exact ⟨Bx, h1, box_put h2 o' hl ho, GS_put h3 o' hl ho, h4⟩
/-- The frame, under a name. -/
theorem wpIn_fr {F : Fence} {n : Nat} {P : Program} {c : Code} {Q : Exit → Act → World → Prop} {tmps : Array Value} {ds : List Deferred} {w : World} (h : ∀ fr : Array Value, fr = tmps → c.wpIn F n P Q { tmps := fr, defers := ds } w) : c.wpIn F n P Q { tmps := tmps, defers := ds } w := h _ rfl
theorem zip_one (p : Tmp) (v : Value) (t : Array Value) : (#[p].zip #[v]).foldl (fun t (p, v) => t.setIfInBounds p v) t = t.setIfInBounds p v := by simp
/-- What the caller keeps: its own blocks are none of the search's; what lay below N lies as_ it lay. -/
structure OutT (W : World) (T : Nat → Prop) (A : World) : Prop where
  t : ∀ k, T k → W.heap.size ≤ k
  b : Below W.heap.size W A
theorem OutT.abide {β : Type} (W : World) : Abide (fun T (_ : β) A => OutT W T A) := by
  intro T T' s A B h hs hg
  have hA := h.b.size
  refine ⟨fun k hk => ?_, hs.os.trans h.b.os, hs.tape.trans h.b.tape, hs.output.trans h.b.output, Nat.le_trans h.b.size hs.size, fun k hk => ?_⟩
  · rcases hg.2 k hk with h1 | h1
    · exact h.t k h1
    · omega
  · rw [hs.block k (by omega) (fun ht => by have := h.t k ht; omega)]
    exact h.b.block k hk
theorem OutT.put {W : World} {T : Nat → Prop} {A : World} (h : OutT W T A) {l : Nat} (o' : Obj) (hl : W.heap.size ≤ l) : OutT W T (A.putObj l o') :=
  ⟨h.t, h.b.os, h.b.tape, h.b.output, by simpa using h.b.size, fun k hk => (World.putObj_heap_other (by omega)).trans (h.b.block k hk)⟩
/-- A box of the caller's own. -/
def OwnB (B : Nat) (o : Obj) (T : Nat → Prop) (A : World) : Prop := ¬ T B ∧ A.heap[B]? = some o
theorem OwnB.abide {β : Type} (B : Nat) (f : β → Obj) : Abide (fun T (s : β) A => OwnB B (f s) T A) := fun T T' s A A' h hs hg => ⟨not_grown h.2 h.1 hg, abide_rec h.2 h.1 hs⟩
theorem OwnB.put {B : Nat} {cs : Array Value} {t : TypeId} {T : Nat → Prop} {A : World} (h : OwnB B (.cells cs t (0, 0)) T A) {l : Nat} {o : Obj} (o' : Obj) (hl : A.heap[l]? = some o) (ho : o.isCells = false) : OwnB B (.cells cs t (0, 0)) T (A.putObj l o') := ⟨h.1, box_put h.2 o' hl ho⟩
/-- A row of the caller's own. -/
theorem ownR_abide {α : Type} {d : Kd α} {e base : Nat} {v : Value} {xs : List α} {T T' : Nat → Prop} {A B : World} (h : d.R e A base (fun k => ¬ T k) v xs) (hs : StepT T A B) (hg : Grows T T' A) : d.R e B base (fun k => ¬ T' k) v xs := by
  refine Kd.R_mono (Kd.R_step (Kd.R_bound h) (fun k hk hlt => hs.block k hlt hk.1)) (fun k hk ht => ?_)
  rcases hg.2 k ht with h1 | h1
  · exact hk.1 h1
  · have := hk.2.2.1; omega
/-- A step of the caller's own: blocks of S (cells all) are written, new ones are laid. -/
structure Mods (S : Nat → Prop) (A B : World) : Prop where
  os : B.os = A.os
  tape : B.tape = A.tape
  output : B.output = A.output
  size : A.heap.size ≤ B.heap.size
  block : ∀ k, k < A.heap.size → ¬ S k → B.heap[k]? = A.heap[k]?
  cells : ∀ k, S k → ∀ o, A.heap[k]? = some o → o.isCells = true
theorem Mods.of_below {S : Nat → Prop} {A B : World} (h : Below A.heap.size A B) (hS : ∀ k, S k → ∀ o, A.heap[k]? = some o → o.isCells = true) : Mods S A B := ⟨h.os, h.tape, h.output, h.size, fun k hk _ => h.block k hk, hS⟩
theorem Mods.others {S : Nat → Prop} {A B : World} (h : Mods S A B) : KeepsOthers A B := ⟨h.size, fun k o hk ho => by
  have hlt := (Array.getElem?_eq_some_iff.1 hk).1
  refine (h.block k hlt (fun hs => ?_)).trans hk
  have := h.cells k hs o hk
  rw [this] at ho; cases ho⟩
theorem Mods.keepS {S T : Nat → Prop} {A B : World} (h : Mods S A B) (hT : ∀ k, T k → k < A.heap.size ∧ ¬ S k) : KeepS T A B := ⟨h.size, fun k hk => h.block k (hT k hk).1 (hT k hk).2⟩
theorem keepS_set {T : Nat → Prop} (A : World) (B i : Nat) (u : Value) (h : ¬ T B) : KeepS T A (A.setCell ⟨B, i, none⟩ u) := ⟨by simp, fun b hb => heap_setCell_other A ⟨B, i, none⟩ b u (by rintro rfl; exact h hb)⟩
/-- What is left of a round by x = append(x, ..), x a boxed row of the caller's own. -/
structure AppP {α : Type} (d : Kd α) (W : World) (T : Nat → Prop) (e t B : Nat) (v1 v2 : Value) (xs' : List α) (wd w2 w3 : World) : Prop where
  fr : w2.frozen? ⟨B, 0, none⟩ = false
  ce : w2.cell? ⟨B, 0, none⟩ = some v1
  ot : KeepsOthers wd w3
  ks : KeepS T wd w3
  o : OutT W T w3
  b : OwnB B (.cells #[v2] t) T w3
  r : d.R e w3 W.heap.size (fun k => ¬ T k) v2 xs'
  x : ∀ (B' : Nat) (c : Array Value) (t' : TypeId), B' ≠ B → t' ≠ e → OwnB B' (.cells c t' (0, 0)) T wd → OwnB B' (.cells c t' (0, 0)) T w3
theorem own_app {α : Type} {d : Kd α} {W : World} {T : Nat → Prop} {e t B : Nat} {v1 v2 : Value} {xs xs' : List α} {wd w2 : World} (hN : W.heap.size ≤ B) (hO : OutT W T wd) (hT : ∀ k, T k → k < wd.heap.size) (h1 : OwnB B (.cells #[v1] t) T wd) (hte : ∀ q, q ∈ e :: d.E → q ≠ t)
    (hR : d.R e wd W.heap.size (fun k => ¬ T k) v1 xs) (ho2 : d.R e w2 W.heap.size (fun k => ¬ T k) v2 xs') (hb2 : Below W.heap.size W w2) (hg2 : wd.grownBy w2 v1.ownBlock) : AppP d W T e t B v1 v2 xs' wd w2 (w2.setCell ⟨B, 0, none⟩ v2) := by
  have hlt : ∀ {B : Nat} {o : Obj}, wd.heap[B]? = some o → B < wd.heap.size := fun h => (Array.getElem?_eq_some_iff.1 h).1
  have hnb : ∀ {B : Nat} {c : Array Value} {t : TypeId}, wd.heap[B]? = some (.cells c t (0, 0)) → t ≠ e → some B ≠ v1.ownBlock := fun hB ht => Kd.R_ne hR hB (Ne.symm ht)
  have k1 : w2.heap[B]? = some (.cells #[v1] t (0, 0)) := (hg2.block _ (hlt h1.2) (hnb h1.2 (Ne.symm (hte e (by simp))))).trans h1.2
  have hks : KeepS T wd w2 := ⟨hg2.size, fun k hk => hg2.block k (hT k hk) (fun e => hR.1 k e.symm hk)⟩
  refine ⟨by simp [World.frozen?, k1], cell_of_heap k1 rfl, (KeepsOthers.of_grownBy hg2 fun j o ej hj => ?_).trans (KeepsOthers.setCell _ _ _), hks.trans (keepS_set _ _ _ _ h1.1), ⟨hO.t, hb2.setCell (p := ⟨B, 0, none⟩) hN _⟩, ⟨h1.1, heap_setCell_same w2 B 0 _ t v2 k1⟩, Kd.R_set ho2 k1 hte 0 v2, fun B' c t' hB ht hO' => ⟨hO'.1, ?_⟩⟩
  · obtain ⟨inner, hown⟩ := Kd.R_own hR
    obtain ⟨cells, hc⟩ := own_typed hown j ej
    rw [hc] at hj
    injection hj with hj
    rw [← hj]; rfl
  · exact (heap_setCell_other w2 ⟨B, 0, none⟩ B' v2 hB).trans ((hg2.block _ (hlt hO'.2) (hnb hO'.2 ht)).trans hO'.2)
end Go.Proofs.Ytgcdeablfoomhaa.PAll
end
section
set_option linter.unusedVariables false
set_option linter.unusedSimpArgs false
namespace Go.Proofs.Ytgcdeablfoomhaa.PAll
open Go.RowKit Go.Proofs.YtgcdeablfoomhaaW.PrintWords Go.Proofs.YtgcdeablfoomhaaW.PrintLast Go.Proofs.YtgcdeablfoomhaaW.PrintMore
def satO (x : Int) : Int := if 1099511627777 < x then 1099511627777 else x
def timesO (a b : Int) : Int := satO (a * b)
theorem satO_le (x : Int) : satO x ≤ 1099511627777 := by unfold satO; split <;> omega
theorem satO_ge {x : Int} (h : 1 ≤ x) : 1 ≤ satO x := by unfold satO; split <;> omega
theorem satO_0 {x : Int} (h : 0 ≤ x) : 0 ≤ satO x := by unfold satO; split <;> omega
theorem times_f {a b : Int} (h0 : 0 ≤ a) (h1 : a ≤ 1099511627777) (h2 : 1 ≤ b) (h3 : b ≤ 1099511627777) : enumerate_times.f a b = some (timesO a b) := by
  have hq0 : 0 ≤ (1099511627776 : Int) / b := Int.ediv_nonneg (by decide) (by omega)
  have hq1 : (1099511627776 : Int) / b ≤ 1099511627776 := Int.ediv_le_self _ (by decide)
  unfold enumerate_times.f
  rw [if_neg (by omega), wrap64_of' (n := (1099511627776 : Int) / b) (by omega) (by omega)]
  by_cases h : a > 1099511627776 / b
  · rw [if_pos h]
    have h4 : (1099511627776 : Int) < (1099511627776 / b + 1) * b := Int.lt_ediv_add_one_mul_self _ (by omega)
    have h5 : (1099511627776 / b + 1) * b ≤ a * b := Int.mul_le_mul_of_nonneg_right (by omega) (by omega)
    unfold timesO satO
    by_cases h6 : 1099511627777 < a * b
    · rw [if_pos h6]
    · rw [if_neg h6]
      congr 1; omega
  · rw [if_neg h]
    have h4 : a * b ≤ 1099511627776 / b * b := Int.mul_le_mul_of_nonneg_right (by omega) (by omega)
    have h5 : 1099511627776 / b * b ≤ 1099511627776 := Int.ediv_mul_le _ (by omega)
    have h6 : 0 ≤ a * b := Int.mul_nonneg h0 (by omega)
    rw [wrap64_of' (n := a * b) (by omega) (by omega)]
    unfold timesO satO mn
    rfl
/-- v to the n-th, up to one more than the limit. -/
def powO (v : Int) : Nat → Int
  | 0 => 1
  | n + 1 => timesO (powO v n) v
theorem powO_ok {v : Int} (h : 1 ≤ v) : ∀ n, 1 ≤ powO v n ∧ powO v n ≤ 1099511627777
  | 0 => ⟨by simp [powO], by simp [powO]⟩
  | n + 1 => by
    have := powO_ok h n
    refine ⟨satO_ge ?_, satO_le _⟩
    have h2 : 1 * 1 ≤ powO v n * v := Int.mul_le_mul this.1 h (by decide) (by omega)
    omega
/-- How many lists are shorter than n. -/
def upO (v : Int) : Nat → Int
  | 0 => 0
  | n + 1 => satO (upO v n + powO v n)
theorem upO_ok {v : Int} (h : 1 ≤ v) : ∀ n, 0 ≤ upO v n ∧ upO v n ≤ 1099511627777
  | 0 => ⟨by simp [upO], by simp [upO]⟩
  | n + 1 => by
    have h1 := upO_ok h n
    have h2 := powO_ok h n
    exact ⟨satO_0 (by omega), satO_le _⟩
theorem upO_pos {v : Int} (h : 1 ≤ v) (n : Nat) : 1 ≤ upO v (n + 1) := by
  have h1 := upO_ok h n
  have h2 := powO_ok h n
  exact satO_ge (by omega)
attribute [local go_sem] min_two
set_option maxRecDepth 100000 in
set_option maxHeartbeats 2000000 in
theorem pow_calls (n : Nat) (V : Nat) (v : Int) (w : World) (hv : w.cell? ⟨V, 0, none⟩ = some (.int .i64 v)) (h0 : 1 ≤ v) (h1 : v ≤ 1099511627777) (hn : n ≤ 100000) :
    Calls Try.prog 42 #[.int .i64 (n : Int), .pointer (some ⟨V, 0, none⟩)] w fun e w' => e = .returned (.int .i64 (powO v n)) ∧ Below w.heap.size w w' := by
  have HV := Lib.hid hv
  clear hv
  go_enter Try.func42, Try.ntmps42
  go_wp2
  go_loopw [4, 6] (fun p i wr => ∃ k : Nat, k ≤ n ∧ i = .int .i64 k ∧ p = .int .i64 (powO v k) ∧ Aside0 (Below w.heap.size w wr)) (fun _ i _ => n - (intOf i).toNat)
  case atStart => exact ⟨0, Nat.zero_le _, rfl, rfl, ⟨Below.refl _ _⟩⟩
  case round =>
    obtain ⟨k, hk, rfl, rfl, HB⟩ := hrel
    by_cases hlt : k < n
    · have d1 : decide (k < n) = true := decide_eq_true hlt
      have hx := (HB.out.cell (World.block_lt_of_cell? _ _ HV.out)).trans HV.out
      have hp := powO_ok h0 k
      have HT := Lib.hid (times_f (by omega) hp.2 h0 h1)
      obtain ⟨q, hq⟩ : ∃ q, q = powO v k := ⟨_, rfl⟩
      rw [← hq] at HT ⊢
      have HQ : Hid (timesO q v = powO v (k + 1)) := Lib.hid (by rw [hq]; rfl)
      clear hq hp
      go_wp2_with (fail)
      refine (enumerate_times.calls _ _ _ _ HT.out).mono ?_
      rintro e w1 ⟨rfl, hb⟩
      rw [HQ.out]
      have HB1 := Lib.hid (HB.out.trans (hb.mono HB.out.size))
      clear hb HB hx
      go_wp2
      go_roundw
      case rel => exact ⟨k + 1, by omega, by go_num, rfl, ⟨HB1.out⟩⟩
      case measure => simp [intOf]; omega
    · have d1 : decide (k < n) = false := decide_eq_false hlt
      obtain rfl : k = n := by omega
      go_wp2
      go_ret
      exact ⟨rfl, HB.out⟩
set_option maxRecDepth 100000 in
set_option maxHeartbeats 2000000 in
theorem up_calls (n : Nat) (V : Nat) (v : Int) (w : World) (hv : w.cell? ⟨V, 0, none⟩ = some (.int .i64 v)) (h0 : 1 ≤ v) (h1 : v ≤ 1099511627777) (hn : n ≤ 100000) :
    Calls Try.prog 44 #[.int .i64 (n : Int), .pointer (some ⟨V, 0, none⟩)] w fun e w' => e = .returned (.int .i64 (upO v (n + 1))) ∧ Below w.heap.size w w' := by
  have HV := Lib.hid hv
  clear hv
  go_enter Try.func44, Try.ntmps44
  go_wp2
  go_loopw [4, 5, 8] (fun s p i wr => ∃ k : Nat, k ≤ n + 1 ∧ i = .int .i64 k ∧ s = .int .i64 (upO v k) ∧ p = .int .i64 (powO v k) ∧ Aside0 (Below w.heap.size w wr)) (fun _ _ i _ => n + 1 - (intOf i).toNat)
  case atStart => exact ⟨0, Nat.zero_le _, rfl, rfl, rfl, ⟨Below.refl _ _⟩⟩
  case round =>
    obtain ⟨k, hk, rfl, rfl, rfl, HB⟩ := hrel
    by_cases hlt : k < n + 1
    · have d1 : decide ((k : Int) < (n : Int) + 1) = true := decide_eq_true (by omega)
      have hx := (HB.out.cell (World.block_lt_of_cell? _ _ HV.out)).trans HV.out
      have hp := powO_ok h0 k
      have hu := upO_ok h0 k
      have HT := Lib.hid (times_f (by omega) hp.2 h0 h1)
      obtain ⟨q, hq⟩ : ∃ q, q = powO v k := ⟨_, rfl⟩
      obtain ⟨s, hs⟩ : ∃ s, s = upO v k := ⟨_, rfl⟩
      rw [← hq] at HT hp ⊢
      rw [← hs] at hu ⊢
      have HQ : Hid (timesO q v = powO v (k + 1)) := Lib.hid (by rw [hq]; rfl)
      have HS : Hid (satO (s + q) = upO v (k + 1)) := Lib.hid (by rw [hq, hs]; rfl)
      have hm : Builtin.min2 (.int .i64 (s + q)) (.int .i64 1099511627777) = pure (.int .i64 (satO (s + q))) := by
        rw [min2_int]; rfl
      have hsq : s + q ≤ 3000000000000 := by omega
      have hsq0 : 0 ≤ s + q := by omega
      clear hq hs hp hu
      go_wp2_with (fail)
      refine (enumerate_times.calls _ _ _ _ HT.out).mono ?_
      rintro e w1 ⟨rfl, hb⟩
      rw [HQ.out, HS.out]
      have HB1 := Lib.hid (HB.out.trans (hb.mono HB.out.size))
      clear hb HB hx hm
      go_wp2
      go_roundw
      case rel => exact ⟨k + 1, by omega, by go_num, rfl, rfl, ⟨HB1.out⟩⟩
      case measure => simp [intOf]; omega
    · have d1 : decide ((k : Int) < (n : Int) + 1) = false := decide_eq_false (by omega)
      obtain rfl : k = n + 1 := by omega
      go_wp2
      go_ret
      exact ⟨rfl, HB.out⟩
end Go.Proofs.Ytgcdeablfoomhaa.PAll
end
section
set_option linter.unusedVariables false
set_option linter.unusedSimpArgs false
namespace Go.Proofs.Ytgcdeablfoomhaa.PAll
open Go.RowKit Go.Proofs.YtgcdeablfoomhaaW.PrintWords Go.Proofs.YtgcdeablfoomhaaW.PrintLast Go.Proofs.YtgcdeablfoomhaaW.PrintMore
def facO (v bl : Int) (x : S48) : Int := if x.f1 = 1 then v else if x.f1 = 2 then powO v x.f2.toNat else upO v (bl.toNat + 1)
def stepO (v bl n : Int) (x : S48) : Int := timesO n (facO v bl x)
def cntO (vars : List S48) (bv bl bi : Int) : Int := vars.foldl (stepO (2 * bv + 1) bl) (upO (2 * bv + 1) (bi.toNat + 1))
def cntN (vars : List S48) (bv bl bi : Int) : Int := if validB vars bv bl bi = true then (if 1099511627776 < cntO vars bv bl bi then 0 else cntO vars bv bl bi) else 0
def cntE (vars : List S48) (bv bl bi : Int) : Int := if validB vars bv bl bi = true then (if 1099511627776 < cntO vars bv bl bi then 5 else 0) else 1
def cntRet (vars : List S48) (bv bl bi : Int) : Value := .tuple #[.int .i64 (cntN vars bv bl bi), .int .i64 (cntE vars bv bl bi)]
theorem cntRet_gt {vars : List S48} {bv bl bi q : Int} (h : validB vars bv bl bi = true) (hq : q = cntO vars bv bl bi) (hg : 1099511627776 < q) : Ending.returned (.tuple #[.int .i64 0, .int .i64 5]) = .returned (cntRet vars bv bl bi) := by
  unfold cntRet cntN cntE
  rw [if_pos h, if_pos h, ← hq, if_pos hg, if_pos hg]
theorem cntRet_le {vars : List S48} {bv bl bi q : Int} (h : validB vars bv bl bi = true) (hq : q = cntO vars bv bl bi) (hg : ¬ 1099511627776 < q) : Ending.returned (.tuple #[.int .i64 q, .int .i64 0]) = .returned (cntRet vars bv bl bi) := by
  unfold cntRet cntN cntE
  rw [if_pos h, if_pos h, ← hq, if_neg hg, if_neg hg]
theorem valid_box {vars : List S48} {bv bl bi : Int} (h : validB vars bv bl bi = true) : vars.length ≤ 32 ∧ (0 ≤ bv ∧ bv ≤ 1000) ∧ (0 ≤ bl ∧ bl ≤ 1000) ∧ (0 ≤ bi ∧ bi ≤ 1000) ∧ ∀ x ∈ vars, okV x = true := by
  unfold validB okB at h
  simp only [Bool.and_eq_true, decide_eq_true_eq, List.all_eq_true] at h
  exact ⟨h.1.1, h.1.2.1.1, h.1.2.1.2, h.1.2.2, h.2⟩
theorem facO_ok {v bl : Int} {x : S48} (h : 1 ≤ v) (h2 : v ≤ 1099511627777) : 1 ≤ facO v bl x ∧ facO v bl x ≤ 1099511627777 := by
  unfold facO
  split
  · omega
  · split
    · exact powO_ok h _
    · exact ⟨upO_pos h _, (upO_ok h _).2⟩
theorem fold_ok {v bl : Int} (h : 1 ≤ v) (h2 : v ≤ 1099511627777) : ∀ (l : List S48) (n : Int), 0 ≤ n → n ≤ 1099511627777 → 0 ≤ l.foldl (stepO v bl) n ∧ l.foldl (stepO v bl) n ≤ 1099511627777
  | [], n, h3, h4 => ⟨h3, h4⟩
  | x :: r, n, h3, h4 => fold_ok h h2 r _ (satO_0 (Int.mul_nonneg h3 (by have := facO_ok (bl := bl) (x := x) h h2; omega))) (satO_le _)
theorem fold_take {v bl n : Int} {l : List S48} {i : Nat} (h : i < l.length) (x : S48) (hx : x = l[i]) : (l.take (i + 1)).foldl (stepO v bl) n = stepO v bl ((l.take i).foldl (stepO v bl) n) x := by
  rw [List.take_succ_eq_append_getElem h, List.foldl_append, hx]; rfl
set_option maxRecDepth 100000 in
set_option maxHeartbeats 8000000 in
theorem count_bad (vars : List S48) (bv bl bi : Int) (A0 : Option Addr) (c0 : Nat) (W : World) (hvB : validB vars bv bl bi = false) (hc0 : vars.length ≤ c0) (hr : Kd.C k48 W A0 vars.length vars) :
    Calls Try.prog 26 #[.slice A0 vars.length c0, .agg #[.int .i64 bv, .int .i64 bl, .int .i64 bi]] W fun e w' => e = .returned (.tuple #[.int .i64 0, .int .i64 1]) ∧ Below W.heap.size W w' := by
  obtain ⟨kv, hkv⟩ := valid_f vars bv bl bi
  rw [hvB] at hkv
  have HR := Lib.hid hr
  have HKV := Lib.hid hkv
  clear hr hkv
  go_enter Try.func26, Try.ntmps26
  go_wp2_with (fail)
  refine (enumerate_valid.calls kv A0 c0 vars bv bl bi false _ (Kd.C_below HR.out (below_alloc (Below.refl _ _) _)) hc0 HKV.out).mono ?_
  rintro e w1 ⟨rfl, hb⟩
  have HB1 := Lib.hid ((below_alloc (Below.refl _ _) _).trans (hb.mono (by simp)))
  clear hb
  go_wp2
  go_ret2
  exact ⟨rfl, HB1.out⟩
set_option maxRecDepth 100000 in
set_option maxHeartbeats 16000000 in
theorem count_ok (vars : List S48) (bv bl bi : Int) (A0 : Option Addr) (c0 : Nat) (W : World) (hvB : validB vars bv bl bi = true) (hc0 : vars.length ≤ c0) (hr : Kd.C k48 W A0 vars.length vars) :
    Calls Try.prog 26 #[.slice A0 vars.length c0, .agg #[.int .i64 bv, .int .i64 bl, .int .i64 bi]] W fun e w' => e = .returned (cntRet vars bv bl bi) ∧ Below W.heap.size W w' := by
  obtain ⟨kv, hkv⟩ := valid_f vars bv bl bi
  rw [hvB] at hkv
  obtain ⟨hlen, hbv, hbl, hbi, hok⟩ := valid_box hvB
  obtain ⟨nl, rfl⟩ : ∃ n : Nat, bl = n := ⟨bl.toNat, by omega⟩
  obtain ⟨ni, rfl⟩ : ∃ n : Nat, bi = n := ⟨bi.toNat, by omega⟩
  obtain ⟨v, hve⟩ : ∃ v : Int, v = 2 * bv + 1 := ⟨_, rfl⟩
  have hv1 : 1 ≤ v := by omega
  have hv2 : v ≤ 1099511627777 := by omega
  have hlen' : (vars.length : Int) ≤ 32 := by omega
  have HR := Lib.hid hr
  have HKV := Lib.hid hkv
  have HOK := Lib.hid hok
  have HVE := Lib.hid hve
  clear hr hkv hok
  go_enter Try.func26, Try.ntmps26
  go_wp2_with (fail)
  obtain ⟨wb, hwb⟩ : ∃ wb, wb = W.alloc (.cells #[.int .i64 bv, .int .i64 (nl : Int), .int .i64 (ni : Int)] 24) := ⟨_, rfl⟩
  obtain ⟨Bb, hBb⟩ : ∃ b, b = W.heap.size := ⟨_, rfl⟩
  rw [← hwb, ← hBb]
  have bb : Below W.heap.size W wb := by rw [hwb]; exact below_alloc (Below.refl _ _) _
  have hcells : wb.heap[Bb]? = some (.cells #[.int .i64 bv, .int .i64 (nl : Int), .int .i64 (ni : Int)] 24 (0, 0)) := by rw [hwb, hBb]; exact World.alloc_heap_new W _
  clear hwb hBb
  refine (enumerate_valid.calls kv A0 c0 vars bv nl ni true _ (Kd.C_below HR.out bb) hc0 HKV.out).mono ?_
  rintro e w1 ⟨rfl, hb⟩
  have hcells1 := (hb.block Bb (Array.getElem?_eq_some_iff.1 hcells).1).trans hcells
  have HB1 := Lib.hid (bb.trans (hb.mono bb.size))
  have f0 : w1.cell? ⟨Bb, 0, none⟩ = some (.int .i64 bv) := by simp [World.cell?, hcells1]
  have f1 : w1.cell? ⟨Bb, 1, none⟩ = some (.int .i64 nl) := by simp [World.cell?, hcells1]
  have f2 : w1.cell? ⟨Bb, 2, none⟩ = some (.int .i64 ni) := by simp [World.cell?, hcells1]
  clear hb bb hcells hcells1
  clear hve
  go_upto_region 4 with (fail)
  rw [← HVE.out]
  obtain ⟨V, hV⟩ : ∃ V, V = w1.heap.size := ⟨_, rfl⟩
  obtain ⟨w2, hw2⟩ : ∃ w2, w2 = w1.alloc (.cells #[.int .i64 v] 3) := ⟨_, rfl⟩
  rw [← hw2, ← hV]
  have b2 : Below w1.heap.size w1 w2 := by rw [hw2]; exact below_alloc (Below.refl _ _) _
  have hcv : w2.cell? ⟨V, 0, none⟩ = some (.int .i64 v) := by
    have h9 : w2.heap[V]? = some (.cells #[.int .i64 v] 3 (0, 0)) := by rw [hw2, hV]; exact World.alloc_heap_new w1 _
    simp [World.cell?, h9]
  have g1 := (b2.cell (World.block_lt_of_cell? _ _ f1)).trans f1
  have g2 := (b2.cell (World.block_lt_of_cell? _ _ f2)).trans f2
  have HB2 := Lib.hid (HB1.out.trans (b2.mono HB1.out.size))
  have HCV := Lib.hid hcv
  have HG1 := Lib.hid g1
  clear f0 f1 f2 hw2 hV b2 HB1
  go_wp2_with (fail)
  refine (up_calls ni V v _ hcv hv1 hv2 (by omega)).mono ?_
  rintro e w3 ⟨rfl, hb⟩
  obtain ⟨u0, hu0⟩ : ∃ u, u = upO v (ni + 1) := ⟨_, rfl⟩
  rw [← hu0]
  have hu0b := upO_ok hv1 (ni + 1)
  rw [← hu0] at hu0b
  have HU0 := Lib.hid hu0
  have HB3 := Lib.hid hb
  clear hb hu0 g1 g2 hcv
  go_wp2_with (fail)
  go_loopg [9, 28] vars.length (fun kq v9 v28 wr => ∃ (i : Nat), kq + i = vars.length ∧ v28 = .int .i64 i ∧ v9 = .int .i64 ((vars.take i).foldl (stepO v nl) u0) ∧ Aside0 (Below w2.heap.size w2 wr))
  case atStart => exact ⟨0, rfl, rfl, rfl, ⟨HB3.out⟩⟩
  case round =>
    clear HB3
    obtain ⟨i, hik, rfl, rfl, HB⟩ := hrel
    have hfo := fold_ok (bl := (nl : Int)) hv1 hv2 (vars.take i) u0 hu0b.1 hu0b.2
    by_cases hi : i < vars.length
    · have hid : decide (i < vars.length) = true := decide_eq_true hi
      obtain ⟨ad, hA, hx0, hx1, hx2⟩ := at_T48 (Kd.C_below HR.out (HB2.out.trans (HB.out.mono HB2.out.size))) (i : Int) (by omega) (by omega)
      subst hA
      have p1 : (0 ≤ (i : Int)) = True := eq_true (by omega)
      have p2 : ((i : Int) < (vars.length : Int)) = True := eq_true (by omega)
      have p3 : (i < vars.length) = True := eq_true hi
      obtain ⟨vd, hvd⟩ : ∃ vd, vd = rd_T48 vars (i : Int) := ⟨_, rfl⟩
      rw [← hvd] at hx0 hx1 hx2
      simp only [Int.toNat_natCast] at hx0 hx1 hx2
      have hvl : vd = vars[i] := by rw [hvd]; unfold rd_T48; simp [hi]
      have htk := fold_take (v := v) (bl := (nl : Int)) (n := u0) hi vd hvl
      have hvo := HOK.out vd (by rw [hvl]; exact List.getElem_mem hi)
      obtain ⟨q, hq⟩ : ∃ q, q = (vars.take i).foldl (stepO v nl) u0 := ⟨_, rfl⟩
      rw [← hq] at hfo htk ⊢
      have hfc := facO_ok (bl := (nl : Int)) (x := vd) hv1 hv2
      have hcv := (HB.out.cell (World.block_lt_of_cell? _ _ HCV.out)).trans HCV.out
      have hg1 := (HB.out.cell (World.block_lt_of_cell? _ _ HG1.out)).trans HG1.out
      have HTF := Lib.hid (times_f hfo.1 hfo.2 hfc.1 hfc.2)
      have HTK := Lib.hid htk
      have HVO := Lib.hid hvo
      clear hvd hvl htk hvo hq hfo hfc
      go_upto_region 10 with (fail)
      obtain ⟨wa, hwa⟩ : ∃ wa, wa = wr.alloc (.cells #[.string vd.f0, .int .u8 vd.f1, .int .i64 vd.f2] 48) := ⟨_, rfl⟩
      obtain ⟨y, hy⟩ : ∃ y, y = wr.heap.size := ⟨_, rfl⟩
      rw [← hwa, ← hy]
      have hba : Below wr.heap.size wr wa := by rw [hwa]; exact below_alloc (Below.refl _ _) _
      have hbv2 : BoxV wa y vd := by rw [hwa, hy]; exact World.alloc_heap_new wr _
      have HBA := Lib.hid (HB.out.trans (hba.mono HB.out.size))
      have hcv2 := (hba.cell (World.block_lt_of_cell? _ _ hcv)).trans hcv
      have hg12 := (hba.cell (World.block_lt_of_cell? _ _ hg1)).trans hg1
      clear HB hwa hy hba hx0 hx1 hx2 hcv hg1
      have hx1 := hbv2.c1
      have hx2 := hbv2.c2
      clear hbv2
      by_cases k1 : vd.f1 = 1
      · have k1b : (vd.f1 == 1) = true := by simpa using k1
        have hf : facO v nl vd = v := by unfold facO; rw [if_pos k1]
        have htf := HTF.out
        rw [hf] at htf
        have htk : (vars.take (i + 1)).foldl (stepO v nl) u0 = timesO q v := by rw [HTK.out]; unfold stepO; rw [hf]
        have HTF2 := Lib.hid htf
        have HTK2 := Lib.hid htk
        clear k1 hf htf htk HTF HTK hx2 hg12
        go_wp2_with (fail)
        refine (enumerate_times.calls _ _ _ _ HTF2.out).mono ?_
        rintro e w5 ⟨rfl, hb⟩
        have HB5 := Lib.hid (HBA.out.trans (hb.mono HBA.out.size))
        clear hb hcv2 hx1
        go_wp2
        go_roundg (vars.length - (i + 1))
        case measure => omega
        case rel => exact ⟨i + 1, by omega, by go_num, by rw [HTK2.out], ⟨HB5.out⟩⟩
      · have k1b : (vd.f1 == 1) = false := by simpa using k1
        by_cases k2 : vd.f1 = 2
        · have k2b : (vd.f1 == 2) = true := by simpa using k2
          have hmm : 1 ≤ vd.f2 ∧ vd.f2 ≤ 16 := by
            have h9 := HVO.out
            unfold okV at h9
            simp only [k2, Bool.and_eq_true, Bool.or_eq_true, decide_eq_true_eq] at h9
            omega
          obtain ⟨m, hm⟩ : ∃ m : Nat, vd.f2 = m := ⟨vd.f2.toNat, by omega⟩
          have hf : facO v nl vd = powO v m := by unfold facO; rw [if_neg k1, if_pos k2, hm]; rfl
          have htf := HTF.out
          rw [hf] at htf
          have htk : (vars.take (i + 1)).foldl (stepO v nl) u0 = timesO q (powO v m) := by rw [HTK.out]; unfold stepO; rw [hf]
          rw [hm] at hx2
          have hmb : m ≤ 16 := by omega
          have HTF2 := Lib.hid htf
          have HTK2 := Lib.hid htk
          clear k1 k2 hf htf htk HTF HTK hg12 hm hmm
          go_wp2_with (fail)
          refine (pow_calls m V v _ hcv2 hv1 hv2 (by omega)).mono ?_
          rintro e w4 ⟨rfl, hb⟩
          have HB4 := Lib.hid (HBA.out.trans (hb.mono HBA.out.size))
          clear hb hcv2 hx1 hx2
          go_wp2_with (fail)
          refine (enumerate_times.calls _ _ _ _ HTF2.out).mono ?_
          rintro e w5 ⟨rfl, hb⟩
          have HB5 := Lib.hid (HB4.out.trans (hb.mono HB4.out.size))
          clear hb
          go_wp2
          go_roundg (vars.length - (i + 1))
          case measure => omega
          case rel => exact ⟨i + 1, by omega, by go_num, by rw [HTK2.out], ⟨HB5.out⟩⟩
        · have k2b : (vd.f1 == 2) = false := by simpa using k2
          have hf : facO v nl vd = upO v (nl + 1) := by unfold facO; rw [if_neg k1, if_neg k2]; rfl
          have htf := HTF.out
          rw [hf] at htf
          have htk : (vars.take (i + 1)).foldl (stepO v nl) u0 = timesO q (upO v (nl + 1)) := by rw [HTK.out]; unfold stepO; rw [hf]
          have HTF2 := Lib.hid htf
          have HTK2 := Lib.hid htk
          clear k1 k2 hf htf htk HTF HTK hx2
          go_wp2_with (fail)
          refine (up_calls nl V v _ hcv2 hv1 hv2 (by omega)).mono ?_
          rintro e w4 ⟨rfl, hb⟩
          have HB4 := Lib.hid (HBA.out.trans (hb.mono HBA.out.size))
          clear hb hcv2 hx1 hg12
          go_wp2_with (fail)
          refine (enumerate_times.calls _ _ _ _ HTF2.out).mono ?_
          rintro e w5 ⟨rfl, hb⟩
          have HB5 := Lib.hid (HB4.out.trans (hb.mono HB4.out.size))
          clear hb
          go_wp2
          go_roundg (vars.length - (i + 1))
          case measure => omega
          case rel => exact ⟨i + 1, by omega, by go_num, by rw [HTK2.out], ⟨HB5.out⟩⟩
    · have hid : decide (i < vars.length) = false := decide_eq_false hi
      have hie : i = vars.length := by omega
      have hq : (vars.take i).foldl (stepO v nl) u0 = cntO vars bv nl ni := by
        rw [hie, List.take_of_length_le (Nat.le_refl _), HU0.out, HVE.out]; rfl
      obtain ⟨q, hqq⟩ : ∃ q, q = (vars.take i).foldl (stepO v nl) u0 := ⟨_, rfl⟩
      rw [← hqq] at hq hfo ⊢
      have HBE := Lib.hid (HB2.out.trans (HB.out.mono HB2.out.size))
      have HQQ := Lib.hid hq
      clear hq hie hqq HB
      by_cases hgt : 1099511627776 < q
      · have d1 : decide (1099511627776 < q) = true := decide_eq_true hgt
        go_wp2
        go_ret2
        exact ⟨cntRet_gt hvB HQQ.out hgt, HBE.out⟩
      · have d1 : decide (1099511627776 < q) = false := decide_eq_false hgt
        go_wp2
        go_ret2
        exact ⟨cntRet_le hvB HQQ.out (Int.not_lt.2 hgt), HBE.out⟩
theorem count_calls (vars : List S48) (bv bl bi : Int) (A0 : Option Addr) (c0 : Nat) (W : World) (hc0 : vars.length ≤ c0) (hr : Kd.C k48 W A0 vars.length vars) :
    Calls Try.prog 26 #[.slice A0 vars.length c0, .agg #[.int .i64 bv, .int .i64 bl, .int .i64 bi]] W fun e w' => e = .returned (.tuple #[.int .i64 (cntN vars bv bl bi), .int .i64 (cntE vars bv bl bi)]) ∧ Below W.heap.size W w' := by
  cases hvB : validB vars bv bl bi with
  | true => exact count_ok vars bv bl bi A0 c0 W hvB hc0 hr
  | false =>
    have h := count_bad vars bv bl bi A0 c0 W hvB hc0 hr
    unfold cntN cntE
    rw [hvB]
    exact h
end Go.Proofs.Ytgcdeablfoomhaa.PAll
end
section
set_option linter.unusedVariables false
set_option linter.unusedSimpArgs false
namespace Go.Proofs.Ytgcdeablfoomhaa.PAll
open Go.RowKit Go.Proofs.YtgcdeablfoomhaaW.PrintWords Go.Proofs.YtgcdeablfoomhaaW.PrintLast Go.Proofs.YtgcdeablfoomhaaW.PrintMore
attribute [local go_sem] Oper.semAt_some
theorem equalIn_func_nil (d : Nat) (w : World) (a : Fn) (b c : Array Value) : (Op.equalIn (d + 1) 30 (.func a b c) .nilFunc).run Try.prog w = .ok false w := by
  simp only [Op.equalIn]
  simp [run_underlying Try.underlying30]
theorem eql_func_nil (w : World) (a : Fn) (b c : Array Value) : (binOp .eql 30 (.func a b c) .nilFunc).run Try.prog w = .ok (.bool false) w := by
  have h := equalIn_func_nil 9999 w a b c
  simp only [binOp]
  simp [Op.equal, Op.maxDepth, h]
def goodS (x : List (List Int)) : Bool := x.dropLast.length == 1 && (x.dropLast.getD 0 []).length == 1
def headS (x : List (List Int)) : Int := (x.dropLast.getD 0 []).getD 0 0
/-- What awake keeps over its range. -/
structure AwI (W : World) (B0 B1 : Nat) (T : Nat → Prop) (pre : List (List (List Int))) (A : World) : Prop where
  o : OutT W T A
  r : OwnB B0 (.cells #[.bool false] 4) T A
  g : ∃ v, OwnB B1 (.cells #[v] 33) T A ∧ Kd.R (Kd.int .i64) 3 A W.heap.size (fun k => ¬ T k) v (pre.map headS)
  l : pre.length ≤ 4
  p : ∀ x ∈ pre, goodS x = true
theorem AwI.abide (W : World) (B0 B1 : Nat) : Abide (AwI W B0 B1) := by
  intro T T' s A B h hs hg
  obtain ⟨v, h1, h2⟩ := h.g
  exact ⟨OutT.abide (β := Unit) W T T' () A B h.o hs hg, OwnB.abide (β := Unit) B0 (fun _ => _) T T' () A B h.r hs hg, ⟨v, OwnB.abide (β := Unit) B1 (fun _ => _) T T' () A B h1 hs hg, ownR_abide h2 hs hg⟩, h.l, h.p⟩
theorem AwI.put {W : World} {B0 B1 : Nat} {T : Nat → Prop} {pre : List (List (List Int))} {A : World} (h : AwI W B0 B1 T pre A) {l : Nat} {o : Obj} (o' : Obj) (hlN : W.heap.size ≤ l) (hl : A.heap[l]? = some o) (ho : o.isCells = false) : AwI W B0 B1 T pre (A.putObj l o') := by
  obtain ⟨v, h1, h2⟩ := h.g
  exact ⟨h.o.put o' hlN, h.r.put o' hl ho, ⟨v, h1.put o' hl ho, R_put h2 o' hl ho⟩, h.l, h.p⟩
theorem AppP.awI {W : World} {B0 B1 : Nat} {T : Nat → Prop} {pre : List (List (List Int))} {x : List (List Int)} {wd w2 w3 : World} {v1 v2 : Value} {q : Int} (h : AppP (Kd.int .i64) W T 3 33 B1 v1 v2 (pre.map headS ++ [q]) wd w2 w3)
    (hI : AwI W B0 B1 T pre wd) (hne : B0 ≠ B1) (hx : goodS x = true) (hh : headS x = q) (hp : pre.length ≤ 3) : AwI W B0 B1 T (pre ++ [x]) w3 :=
  ⟨h.o, h.x _ _ _ hne (by decide) hI.r, ⟨v2, h.b, by have := h.r; rw [← hh] at this; simpa using this⟩, by simp; omega, fun z hz => by
    rcases List.mem_append.1 hz with hz | hz
    · exact hI.p z hz
    · rw [List.mem_singleton.1 hz]; exact hx⟩
/-- .. and where it is left. -/
structure AwX (W : World) (B0 : Nat) (c : Code) (T : Nat → Prop) (pre : List (List (List Int))) (A : World) : Prop where
  c : c = .ret
  n : ¬ (pre.length ≤ 4 ∧ ∀ x ∈ pre, goodS x = true)
theorem AwX.abide (W : World) (B0 : Nat) (c : Code) : Abide (AwX W B0 c) := fun T T' s A B h hs hg => ⟨h.c, h.n⟩
theorem al_c {w : World} {a : Addr} {v : Value} (h : w.cell? a = some v) (o : Obj) : (w.alloc o).cell? a = some v := (World.cell?_alloc_lt _ _ _ (World.block_lt_of_cell? _ _ h)).trans h
theorem aw_stop {W : World} {B0 B1 : Nat} {T : Nat → Prop} {pre : List (List (List Int))} {x : List (List Int)} {A : World} (hI : AwI W B0 B1 T pre A) (hbad : ¬ ((pre ++ [x]).length ≤ 4 ∧ ∀ z ∈ pre ++ [x], goodS z = true)) (a : Act) :
    postT T (AwI W B0 B1) (AwX W B0) (pre ++ [x]) A .ret a (A.setCell ⟨B0, 0, none⟩ (.bool false)) :=
  ⟨KeepsOthers.setCell _ _ _, keepS_set _ _ _ _ hI.r.1, rfl, hbad⟩
theorem tab11_9 : rtab .any (opsOf Try.f11 9) = (true, [([], []), ([], []), ([1], [1]), ([2], [2]), ([3], [3]), ([4], [4]), ([5], [5]), ([6], [6]), ([0, 7], [0, 7]), ([8, 8, 0, 1, 2, 3, 4, 5, 6, 7, 8], [8])]) := by kernel_rfl
theorem bits11_9 : waitsOk (true, [([], []), ([], []), ([1], [1]), ([2], [2]), ([3], [3]), ([4], [4]), ([5], [5]), ([6], [6]), ([0, 7], [0, 7]), ([8, 8, 0, 1, 2, 3, 4, 5, 6, 7, 8], [8])]).2 [0, 0, 2, 6, 14, 30, 62, 126, 255, 511] = true := by decide +kernel
theorem three_new (W : World) (a b c : Obj) : ((((W.alloc a).alloc b).alloc c).heap[W.heap.size]? = some a) ∧ ((((W.alloc a).alloc b).alloc c).heap[W.heap.size + 1]? = some b) ∧ ((((W.alloc a).alloc b).alloc c).heap[W.heap.size + 1 + 1]? = some c) ∧
    Below W.heap.size W (((W.alloc a).alloc b).alloc c) ∧ (((W.alloc a).alloc b).alloc c).heap.size = W.heap.size + 3 := by
  refine ⟨blk_alloc (blk_alloc (World.alloc_heap_new W _) _) _, ?_, ?_, (((Below.refl _ _).alloc (Nat.le_refl _) _).alloc (by simp) _).alloc (by simp; omega) _, by simp⟩
  · have := World.alloc_heap_new (W.alloc a) b
    rw [World.size_alloc] at this
    exact blk_alloc this _
  · have := World.alloc_heap_new ((W.alloc a).alloc b) c
    rwa [World.size_alloc, World.size_alloc] at this
theorem one_decl {w : World} {B : Nat} (x : S48) (h : w.heap[B]? = some (.cells #[.string x.f0, .int .u8 x.f1, .int .i64 x.f2] 48 (0, 0))) : Kd.C k48 w (some ⟨B, 0, none⟩) [x].length [x] := by
  refine ⟨rfl, by simp, fun _ => ⟨_, rfl, fun j p hj => ?_⟩⟩
  match j, hj with
  | 0, hj =>
    obtain rfl : x = p := by simpa using hj
    refine ⟨_, rfl, k48_mk w x, fun i u hu => ?_⟩
    match i, hu with
    | 0, hu => obtain rfl : _ = u := by simpa using hu
               exact cell_of_heap h rfl
    | 1, hu => obtain rfl : _ = u := by simpa using hu
               exact cell_of_heap h rfl
    | 2, hu => obtain rfl : _ = u := by simpa using hu
               exact cell_of_heap h rfl
set_option maxRecDepth 100000 in
set_option maxHeartbeats 8000000 in
theorem awake_calls (W : World) : Calls Try.prog 11 #[] W fun e w' => e = .returned (.bool true) ∧ Below W.heap.size W w' := by
  refine (callsIn_wide (n := 3)).1 ?_
  refine callsIn_of_wp_marks Try.func11 rfl trivial ?_ rfl
  simp only [Try.ntmps11, List.size_toArray, List.length_cons, List.length_nil, Nat.reduceAdd, Nat.reduceSub, Array.replicate_succ, Array.replicate_zero, List.push_toArray, List.append_toArray, List.nil_append, List.cons_append]
  gi_wp2_with (fail)
  obtain ⟨w0, hw0⟩ : ∃ w0, w0 = ((W.alloc (.cells #[.bool false] 4)).alloc (.cells #[.slice none 0 0] 33)).alloc (.cells #[.string ⟨#[120]⟩, .int .u8 1, .int .i64 0] 48) := ⟨_, rfl⟩
  obtain ⟨h0, h1, h2, hb, hsz⟩ := three_new W (.cells #[.bool false] 4) (.cells #[.slice none 0 0] 33) (.cells #[.string ⟨#[120]⟩, .int .u8 1, .int .i64 0] 48)
  rw [← hw0] at h0 h1 h2 hb hsz ⊢
  obtain ⟨B0, hB0⟩ : ∃ b, b = W.heap.size := ⟨_, rfl⟩
  obtain ⟨B1, hB1⟩ : ∃ b, b = W.heap.size + 1 := ⟨_, rfl⟩
  obtain ⟨B2, hB2⟩ : ∃ b, b = W.heap.size + 1 + 1 := ⟨_, rfl⟩
  rw [← hB2, ← hB1, ← hB0]
  rw [← hB0] at h0
  rw [← hB1] at h1
  rw [← hB2] at h2
  have hr := one_decl ⟨⟨#[120]⟩, 1, 0⟩ h2
  have HB := Lib.hid hb
  have HSZ := Lib.hid hsz
  have HBB := Lib.hid (And.intro hB0 (And.intro hB1 hB2))
  have HR := Lib.hid hr
  have HC0 := Lib.hid h0
  have HC1 := Lib.hid h1
  clear hb hsz hB0 hB1 hB2 hr h0 h1 h2 hw0
  refine ⟨trivial, (callsIn_wide.2 (all_calls _ _ _ _ _ _ _)).mono ?_⟩
  rintro e w1 ⟨Bv, Bb, rfl, cv, c0, c1, c2, hb1⟩
  have HS := Lib.hid (seq_all _ 1 0 0 _ _ Bv Bb w1 cv (Nat.le_refl _) (Kd.C_below HR.out hb1) c0 c1 c2)
  have HB1 := Lib.hid hb1
  clear cv c0 c1 c2 hb1
  have hen := eql_func_nil w1 (.func 31) #[] #[.pointer (some ⟨Bv, 0, none⟩), .pointer (some ⟨Bb, 0, none⟩)]
  gi_wp2_with (fail)
  clear hen
  have HSN : Hid (W.heap.size ≤ w1.heap.size) := Lib.hid (Nat.le_trans HB.out.size HB1.out.size)
  refine wpIn_fr ?_
  intro fr hfr
  refine wpIn_rangeFunc_A (gf := 31) (by rw [hfr]; rfl) (enters_of Try.func31 (by kernel_rfl) rfl) HS.out (Below.refl _ _) (fun _ _ => rfl)
    (Ax := AxS fun Bx y => { tmps := (fr.setIfInBounds 13 (.agg #[y.1, y.2, nil3])).setIfInBounds 3 (.pointer (some ⟨Bx, 0, none⟩)), defers := [] }) AxS_put
    (AwI W B0 B1) (AwX W B0) (AwI.abide W B0 B1) (AwX.abide W B0) (fun T s A l o o' h hl ho hc => h.put o' (Nat.le_trans HSN.out hl) ho hc) (fun c T s A l o o' h hl ho hc => ⟨h.c, h.n⟩) ?h0 ?assign ?body ?done ?stop
  case h0 =>
    obtain ⟨e0, e1, e2⟩ := HBB.out
    have hs := HSZ.out
    exact ⟨⟨fun _ h => h.elim, HB.out.trans (HB1.out.mono HB.out.size)⟩, ⟨not_false, (HB1.out.block _ (by omega)).trans HC0.out⟩, ⟨nil3, ⟨not_false, (HB1.out.block _ (by omega)).trans HC1.out⟩, Kd.R_nil _ _ _ _ _⟩, by simp, by simp⟩
  case assign =>
    rintro l z x y W1 K hG hz hK
    obtain ⟨A1, n1, c1, A2, n2, c2, rfl⟩ := GS_slices hG
    subst hfr
    simp only [encS, zip_one, List.setIfInBounds_toArray, List.set_cons_succ, List.set_cons_zero]
    gi_wp2
    exact hK _ _ (below_alloc (Below.refl _ _) _) ⟨W1.heap.size, hz, BoxA.new _ _ _ _, GS_below hG (below_alloc (Below.refl _ _) _), by simp only [List.setIfInBounds_toArray, List.set_cons_succ, List.set_cons_zero]⟩
  case body =>
    rintro l T pre x y a' Az A _ hI hT hbz ⟨Bx, hBx, hbox, hG, rfl⟩
    have hIA := AwI.abide W B0 B1 T T pre Az A hI (StepT.of_below hbz) (Grows.refl _ _)
    have hTA : ∀ k, T k → k < A.heap.size := fun k hk => Nat.lt_of_lt_of_le (hT k hk) hbz.size
    obtain ⟨v1, hg1z, hgRz⟩ := hI.g
    have hg1 : OwnB B1 (.cells #[v1] 33) T A := ⟨hg1z.1, (hbz.block _ (Array.getElem?_eq_some_iff.1 hg1z.2).1).trans hg1z.2⟩
    have hgR := Kd.R_below hgRz hbz
    obtain ⟨y0, y1⟩ := y
    obtain ⟨hG1, hG2⟩ := hG
    dsimp only at hbox hG1 hG2
    obtain ⟨cs, hcs⟩ : ∃ cs, cs = x.dropLast := ⟨_, rfl⟩
    rw [← hcs] at hG1
    obtain ⟨A1, c1, e1⟩ := Kd.R_slice hG1
    subst e1
    obtain ⟨Ag, cg, e2⟩ := Kd.R_slice hgR
    subst e2
    rw [List.length_map] at hg1 hgR
    have b0 := cell_of_heap (i := 0) hIA.r.2 rfl
    have fz : A.frozen? ⟨B0, 0, none⟩ = false := by simp [World.frozen?, hIA.r.2]
    have b1 := cell_of_heap (i := 0) hg1.2 rfl
    have x0 := hbox.c0
    have HST := Lib.hid (fun hb => aw_stop (x := x) hIA hb)
    have HIA := Lib.hid hIA
    have HTA := Lib.hid hTA
    have HG1 := Lib.hid hg1
    have HGR := Lib.hid hgR
    have HX1 := Lib.hid hG1
    have HCS := Lib.hid hcs
    clear hI hT hbz hbox hG2 hIA hTA hg1 hgR hG1 hcs hBx hg1z hgRz
    subst hfr
    simp only [List.setIfInBounds_toArray, List.set_cons_succ, List.set_cons_zero]
    by_cases hc : cs.length = 1
    · obtain ⟨c0, rfl⟩ : ∃ c0, cs = [c0] := List.length_eq_one_iff.1 hc
      clear hc
      simp only [List.length_cons, List.length_nil, Nat.zero_add] at x0 HX1
      obtain ⟨inner, hown⟩ := Kd.R_own HX1.out
      obtain ⟨g, cap, e3⟩ := ownsRow_succ (k := 0) hown
      injection e3 with e4 e7 e5
      clear e7
      subst e4 e5
      clear hown inner
      obtain ⟨c, hcl, ⟨v3, hv3, hR3⟩, hcc, _⟩ := Kd.R_elem HX1.out [] 0 (by decide) (by decide)
      subst hv3
      have x1 : A.cell? ⟨g, 0, none⟩ = some v3 := by have := hcc 0 v3 rfl; simpa using this
      obtain ⟨A3, c3, e6⟩ := Kd.R_slice hR3
      subst e6
      have hR3' : Kd.R (Kd.int .i64) 3 A Az.heap.size (fun k => True ∧ k ≠ g) (.slice A3 c0.length c3) c0 := hR3
      have x1' : A.cell? ⟨g, 0, none⟩ = some (.slice A3 c0.length c3) := x1
      clear hcl hcc hR3 x1
      by_cases hd : c0.length = 1
      · obtain ⟨q, rfl⟩ : ∃ q, c0 = [q] := List.length_eq_one_iff.1 hd
        simp only [List.length_cons, List.length_nil, Nat.zero_add] at x1' hR3'
        obtain ⟨inner, hown⟩ := Kd.R_own hR3'
        obtain ⟨g3, cap, e3⟩ := ownsRow_succ (k := 0) hown
        injection e3 with e4 e7 e5
        clear e7
        subst e4 e5
        have x2 := (Kd.R_celln 0 hR3' 0 (by decide) (by decide)).1
        replace x2 : A.cell? ⟨g3, 0, none⟩ = some (.int .i64 q) := x2
        clear hown inner hR3' hd
        by_cases hp : pre.length ≤ 3
        · have d3 : decide ((3 : Int) < (pre.length : Int)) = false := decide_eq_false (by omega)
          have d4 : decide (3 < pre.length) = false := decide_eq_false (by omega)
          have hgood : goodS x = true := by unfold goodS; rw [← HCS.out]; rfl
          have hhead : headS x = q := by unfold headS; rw [← HCS.out]; rfl
          have HGD := Lib.hid (And.intro hgood hhead)
          have HP := Lib.hid hp
          have HSD0 := Lib.hid (And.intro b1 (And.intro x0 (And.intro x1' x2)))
          clear hgood hhead hp
          gi_wp2_with (fail)
          refine startR_ (n := 10) (S := fun w' => w'.cell? ⟨B1, 0, none⟩ = some (.slice Ag pre.length cg) ∧ w'.cell? ⟨Bx, 0, none⟩ = some (.slice (some ⟨g, 0, none⟩) 1 c1) ∧ w'.cell? ⟨g, 0, none⟩ = some (.slice (some ⟨g3, 0, none⟩) 1 c3) ∧ w'.cell? ⟨g3, 0, none⟩ = some (.int .i64 q)) (ds := [8, 9]) #[false, false, false, false, false, false, false, false, false, false] (fun ⟨_, _, h⟩ => h) (by kernel_rfl) (by kernel_rfl) rfl rfl HSD0.out (fun hHeld => ?_); refine with_tabW tab11_9 bits11_9 (fun HT_ HW_ => ?_)
          obtain ⟨wd, hwd⟩ : ∃ wd, wd = A.drew := ⟨_, rfl⟩
          have hsd := HSD0.out
          have hid : AwI W B0 B1 T pre wd := by rw [hwd]; exact AwI.abide W B0 B1 T T pre A _ HIA.out (StepT.of_below (below_drew1 (Below.refl _ _))) (Grows.refl _ _)
          have htd : ∀ k, T k → k < wd.heap.size := by rw [hwd]; exact HTA.out
          have hgb : OwnB B1 (.cells #[.slice Ag pre.length cg] 33) T wd := by rw [hwd]; exact HG1.out
          have hrd := Kd.R_drew HGR.out
          rw [← hwd] at hrd
          have hse : A.drew = wd := hwd.symm
          rw [← hwd] at hHeld ⊢
          have HSD := Lib.hid hHeld
          have HID := Lib.hid hid
          have HTD := Lib.hid htd
          have HGB := Lib.hid hgb
          have HRD := Lib.hid hrd
          have HWD := Lib.hid hwd
          clear hwd hid htd hgb hrd hse hsd b0 fz b1 x0 x1' x2
          refine take_ (i := 0) (N := some 31) (v := ?_) (a' := ?_) #[true, false, false, false, false, false, false, false, false, false] rfl rfl (take_ofW HT_.out HW_.out (by kernel_rfl)) (fun _ _ _ h => h) (Or.inl ⟨by rfl, ?_⟩) hHeld ?_ ?_
          rotate_left
          · rintro w' ⟨s0, s1, s2, s3⟩
            go_simp
            with_reducible rfl
          rotate_left
          · simp only [Act.put, List.setIfInBounds_toArray, List.set_cons_zero, List.set_cons_succ, i64_w, i32_w]
            rfl
          refine pure_ (i := 1) (N := some 32) (v := ?_) (a' := ?_) #[true, true, false, false, false, false, false, false, false, false] rfl rfl (any_of HT_.out (by kernel_rfl)) (fun _ _ _ h => h) (Or.inl ⟨by rfl, ?_⟩) ?_ ?_
          rotate_left
          · intro w'
            go_simp
            with_reducible rfl
          rotate_left
          · simp only [Act.put, List.setIfInBounds_toArray, List.set_cons_zero, List.set_cons_succ, i64_w, i32_w]
            rfl
          refine take_ (i := 2) (N := some 33) (v := ?_) (a' := ?_) #[true, true, true, false, false, false, false, false, false, false] rfl rfl (take_ofW HT_.out HW_.out (by kernel_rfl)) (fun _ _ _ h => h) (Or.inl ⟨by rfl, ?_⟩) hHeld ?_ ?_
          rotate_left
          · rintro w' ⟨s0, s1, s2, s3⟩
            go_simp
            with_reducible rfl
          rotate_left
          · simp only [Act.put, List.setIfInBounds_toArray, List.set_cons_zero, List.set_cons_succ, i64_w, i32_w]
            rfl
          refine pure_ (i := 3) (N := some 34) (v := ?_) (a' := ?_) #[true, true, true, true, false, false, false, false, false, false] rfl rfl (any_of HT_.out (by kernel_rfl)) (fun _ _ _ h => h) (Or.inl ⟨by rfl, ?_⟩) ?_ ?_
          rotate_left
          · intro w'
            go_simp
            with_reducible rfl
          rotate_left
          · simp only [Act.put, List.setIfInBounds_toArray, List.set_cons_zero, List.set_cons_succ, i64_w, i32_w]
            rfl
          refine take_ (i := 4) (N := some 35) (v := ?_) (a' := ?_) #[true, true, true, true, true, false, false, false, false, false] rfl rfl (take_ofW HT_.out HW_.out (by kernel_rfl)) (fun _ _ _ h => h) (Or.inl ⟨by rfl, ?_⟩) hHeld ?_ ?_
          rotate_left
          · rintro w' ⟨s0, s1, s2, s3⟩
            go_simp
            with_reducible rfl
          rotate_left
          · simp only [Act.put, List.setIfInBounds_toArray, List.set_cons_zero, List.set_cons_succ, i64_w, i32_w]
            rfl
          refine pure_ (i := 5) (N := some 36) (v := ?_) (a' := ?_) #[true, true, true, true, true, true, false, false, false, false] rfl rfl (any_of HT_.out (by kernel_rfl)) (fun _ _ _ h => h) (Or.inl ⟨by rfl, ?_⟩) ?_ ?_
          rotate_left
          · intro w'
            go_simp
            with_reducible rfl
          rotate_left
          · simp only [Act.put, List.setIfInBounds_toArray, List.set_cons_zero, List.set_cons_succ, i64_w, i32_w]
            rfl
          refine take_ (i := 6) (N := some 37) (v := ?_) (a' := ?_) #[true, true, true, true, true, true, true, false, false, false] rfl rfl (take_ofW HT_.out HW_.out (by kernel_rfl)) (fun _ _ _ h => h) (Or.inl ⟨by rfl, ?_⟩) hHeld ?_ ?_
          rotate_left
          · rintro w' ⟨s0, s1, s2, s3⟩
            go_simp
            with_reducible rfl
          rotate_left
          · simp only [Act.put, List.setIfInBounds_toArray, List.set_cons_zero, List.set_cons_succ, i64_w, i32_w]
            rfl
          refine one_ (i := 7) (N := some 38) #[true, true, true, true, true, true, true, true, false, false] rfl rfl (one_of HT_.out (by kernel_rfl)) (by decide) (fun K hK => ?_)
          refine value_ (w1 := ?_) (v := ?_) (by rfl) rfl ?_ ?_
          rotate_left 2
          · go_simp
            constructor
            · rfl
            · rfl
          refine hK.out _ _ ⟨al_c HSD.out.1 _, al_c HSD.out.2.1 _, al_c HSD.out.2.2.1 _, al_c HSD.out.2.2.2 _⟩ (fun hHeld => ?_)
          clear hK K
          refine norm_ (a' := ?_) ?_ ?_
          rotate_left
          · show Act.put _ (some 38) _ = _
            simp only [Act.put, List.setIfInBounds_toArray, List.set_cons_zero, List.set_cons_succ, i64_w, i32_w]
            rfl
          refine last_ (i := 8) (N := some 39) #[true, true, true, true, true, true, true, true, true, false] rfl rfl (one_of HT_.out (by kernel_rfl)) (by decide) (fun K hK => ?_)
          refine Kd.R_append_step (Kd.int .i64) (w0 := W) W.heap.size (by rfl) (.tmp 31) (.tmp 38) 33 3 (.int .i64 0) 8 rfl Try.underlying33 info3 rfl (by decide) (by omega) (.slice Ag pre.length cg) (pre.map headS) q [.int .i64 q] (fun k => ¬ T k) (fun _ => False) rfl rfl rfl (fun _ h => h.elim) (fun k hk ht => by have := HTD.out k ht; omega) HRD.out HID.out.o.b HID.out.o.b.size (by have := HP.out; rw [List.length_map]; omega) ?_
          intro v2 w2 ho2 hb2 hg2 hat2
          have hap := own_app (d := Kd.int .i64) (by have := HBB.out; omega) HID.out.o HTD.out HGB.out (by decide) HRD.out ho2 hb2 hg2
          obtain ⟨A2, c2, e2⟩ := Kd.R_slice ho2
          subst e2
          rw [List.length_append, List.length_map, List.length_singleton] at hap
          have hfr := hap.fr
          have hcc := hap.ce
          have HAP0 := Lib.hid hap
          clear ho2 hb2 hg2 hat2 hap
          refine hK.out _ _ ?_
          clear hK K
          refine norm_ (a' := ?_) ?_ ?_
          rotate_left
          · show Act.put _ (some 39) _ = _
            simp only [Act.put, List.setIfInBounds_toArray, List.set_cons_zero, List.set_cons_succ, i64_w, i32_w]
            rfl
          refine last_ (i := 9) (N := none) #[true, true, true, true, true, true, true, true, true, true] rfl rfl (one_of HT_.out (by kernel_rfl)) (by decide) (fun K hK => ?_)
          refine skip_ (w1 := ?_) (by rfl) rfl ?_ ?_
          rotate_left
          · go_simp
            rfl
          refine hK.out _ _ ?_
          clear hfr hcc
          obtain ⟨w3, hw3⟩ : ∃ w3, w3 = w2.setCell ⟨B1, 0, none⟩ (.slice A2 (pre.length + 1) c2) := ⟨_, rfl⟩
          have hap := HAP0.out
          rw [← hw3] at hap
          rw [← hw3]
          have haw := hap.awI HID.out (by have := HBB.out; omega) HGD.out.1 HGD.out.2 HP.out
          have HAP := Lib.hid hap
          have HAW := Lib.hid haw
          clear hap haw HAP0 hw3
          clear hK K
          refine done_ (done_of HT_.out (by kernel_rfl)) ?_
          exact ⟨by have h := HAP.out.ot; rw [HWD.out] at h; exact (KeepsOthers.drew A).trans h, by have h := HAP.out.ks; rw [HWD.out] at h; exact KeepS.trans ⟨Nat.le_refl _, fun _ _ => rfl⟩ h, HAW.out⟩
        · have d3 : decide ((3 : Int) < (pre.length : Int)) = true := decide_eq_true (by omega)
          have d4 : decide (3 < pre.length) = true := decide_eq_true (by omega)
          have hbad : ¬ ((pre ++ [x]).length ≤ 4 ∧ ∀ z ∈ pre ++ [x], goodS z = true) := fun h => by
            have := h.1
            simp at this
            omega
          have HBAD := Lib.hid (HST.out hbad)
          clear hbad hp x2
          gi_wp2
          exact HBAD.out _
      · have d2 : ((c0.length : Int) != 1) = true := by simp; omega
        have hbad : ¬ ((pre ++ [x]).length ≤ 4 ∧ ∀ z ∈ pre ++ [x], goodS z = true) := fun h => by
          have := h.2 x (by simp)
          unfold goodS at this
          rw [← HCS.out] at this
          simp [hd] at this
        have HBAD := Lib.hid (HST.out hbad)
        clear hbad hd b1 hR3'
        gi_wp2
        exact HBAD.out _
    · have d1 : ((cs.length : Int) != 1) = true := by simp; omega
      have hbad : ¬ ((pre ++ [x]).length ≤ 4 ∧ ∀ z ∈ pre ++ [x], goodS z = true) := fun h => by
        have := h.2 x (by simp)
        unfold goodS at this
        rw [← HCS.out] at this
        simp [hc] at this
      have HBAD := Lib.hid (HST.out hbad)
      clear hbad hc b1
      gi_wp2
      exact HBAD.out _
  case done =>
    rintro D T xs W2 hD rfl hI hK
    have hall : allO [⟨⟨#[120]⟩, 1, 0⟩] 1 0 0 = [[[0], []], [[1], []], [[-1], []]] := by decide +kernel
    rw [hall] at hI
    obtain ⟨v, hg1, hgR⟩ := hI.g
    replace hgR : Kd.R (Kd.int .i64) 3 W2 W.heap.size (fun k => ¬ T k) v [0, 1, -1] := hgR
    have HI := Lib.hid hI
    have HG1 := Lib.hid hg1
    have HGR := Lib.hid hgR
    have HK := Lib.hid hK
    have HD := Lib.hid hD
    clear hall hI hg1 hgR hK hD
    subst hfr
    gi_wp2_with (fail)
    obtain ⟨w4, hw4⟩ : ∃ w4, w4 = W2.alloc (.cells #[.string ⟨#[118]⟩, .int .u8 2, .int .i64 2] 48) := ⟨_, rfl⟩
    obtain ⟨B4, hB4⟩ : ∃ b, b = W2.heap.size := ⟨_, rfl⟩
    rw [← hw4, ← hB4]
    have hn4 : w4.heap[B4]? = some (.cells #[.string ⟨#[118]⟩, .int .u8 2, .int .i64 2] 48 (0, 0)) := by rw [hw4, hB4]; exact World.alloc_heap_new W2 _
    have hb4 : Below W2.heap.size W2 w4 := by rw [hw4]; exact below_alloc (Below.refl _ _) _
    have hr4 := one_decl ⟨⟨#[118]⟩, 2, 2⟩ hn4
    clear hw4 hB4 hn4
    refine ⟨trivial, (callsIn_wide.2 (count_calls _ _ _ _ _ _ _ (Nat.le_refl _) hr4)).mono ?_⟩
    rintro e w5 ⟨rfl, hb5⟩
    have hcn : cntN [⟨⟨#[118]⟩, 2, 2⟩] 2 0 1 = 150 := by decide +kernel
    have hce : cntE [⟨⟨#[118]⟩, 2, 2⟩] 2 0 1 = 0 := by decide +kernel
    rw [hcn, hce]
    have hbb := hb4.trans (hb5.mono hb4.size)
    have hgR5 := Kd.R_below HGR.out hbb
    obtain ⟨inner, hown⟩ := Kd.R_own hgR5
    obtain ⟨g, cap, rfl⟩ := ownsRow_succ (k := 2) hown
    have i0 := (Kd.R_celln 0 hgR5 0 (by decide) (by decide)).1
    have i1 := (Kd.R_celln 0 hgR5 1 (by decide) (by decide)).1
    have i2 := (Kd.R_celln 0 hgR5 2 (by decide) (by decide)).1
    replace i0 : w5.cell? ⟨g, 0, none⟩ = some (.int .i64 0) := i0
    replace i1 : w5.cell? ⟨g, 1, none⟩ = some (.int .i64 1) := i1
    replace i2 : w5.cell? ⟨g, 2, none⟩ = some (.int .i64 (-1)) := i2
    have hlt : ∀ {B : Nat} {o : Obj}, W2.heap[B]? = some o → B < W2.heap.size := fun h => (Array.getElem?_eq_some_iff.1 h).1
    have h5 := (hbb.block _ (hlt HG1.out.2)).trans HG1.out.2
    have h6 := (hbb.block _ (hlt HI.out.r.2)).trans HI.out.r.2
    have b1 := cell_of_heap (i := 0) h5 rfl
    have b0 := cell_of_heap (i := 0) h6 rfl
    have fz : w5.frozen? ⟨B0, 0, none⟩ = false := by simp [World.frozen?, h6]
    have hK5 : w5.heap[D]? = some (.deferred (some [])) := (hbb.block _ (hlt HK.out)).trans HK.out
    have HH6 := Lib.hid h6
    have HK5 := Lib.hid hK5
    have HB5 := Lib.hid (HI.out.o.b.trans (hbb.mono HI.out.o.b.size))
    clear hcn hce hb4 hr4 hb5 hbb hgR5 hown inner hlt h5 h6 hK5
    gi_wp2
    have hKF := (KeepsOthers.setCell w5 ⟨B0, 0, none⟩ (.bool true)).same D _ HK5.out rfl
    refine ⟨by simp, .inl ⟨_, _, rfl, run_takeDeferred hKF, ?_⟩⟩
    have hcF := cell_of_heap (i := 0) (box_put (heap_setCell_same w5 B0 0 _ 4 (.bool true) HH6.out) (.deferred none) hKF rfl) rfl
    have hB0N : W.heap.size ≤ B0 := by have := HBB.out; omega
    have hbF := HB5.out.setCell (p := ⟨B0, 0, none⟩) hB0N (.bool true)
    have hbG := (OutT.put (T := fun _ => False) ⟨fun _ h => h.elim, hbF⟩ (.deferred none) (Nat.le_trans HSN.out HD.out)).b
    exact ⟨.bool true, by simp [results, Try.f11, go_sem, hcF], rfl, hbG⟩
  case stop =>
    rintro D c T pre W2 hD ⟨k, hk, rfl⟩ hx hK
    have hall : allO [⟨⟨#[120]⟩, 1, 0⟩] 1 0 0 = [[[0], []], [[1], []], [[-1], []]] := by decide +kernel
    have hn := hx.n
    rw [hall] at hn hk
    refine absurd ⟨?_, ?_⟩ hn
    · simp; omega
    · intro z hz
      have hz := List.mem_of_mem_take hz
      simp at hz
      rcases hz with rfl | rfl | rfl <;> rfl
end Go.Proofs.Ytgcdeablfoomhaa.PAll
end
section
set_option linter.unusedVariables false
set_option linter.unusedSimpArgs false
namespace Go.Proofs.Ytgcdeablfoomhaa.PAll
open Go.RowKit Go.Proofs.YtgcdeablfoomhaaW.PrintWords Go.Proofs.YtgcdeablfoomhaaW.PrintLast Go.Proofs.YtgcdeablfoomhaaW.PrintMore
attribute [local go_sem] max_two
def rankO (x : Int) : Int := if x > 0 then 2 * x - 1 else -2 * x
theorem unrank_rankO (x : Int) : unrank (rankO x) = x := by
  unfold unrank rankO
  split <;> split <;> omega
theorem drawn_below {w w' : World} (h : Drawn0 w w') : Below w.heap.size w w' := by
  obtain ⟨n, rfl⟩ := h
  exact pw_below_drewN (Below.refl _ _) n
end Go.Proofs.Ytgcdeablfoomhaa.PAll
end
section
set_option linter.unusedVariables false
set_option linter.unusedSimpArgs false
namespace Go.Proofs.Ytgcdeablfoomhaa.PAll
open Go.RowKit Go.Proofs.YtgcdeablfoomhaaW.PrintWords Go.Proofs.YtgcdeablfoomhaaW.PrintLast Go.Proofs.YtgcdeablfoomhaaW.PrintMore
theorem rd_at {l : List Int} {j : Nat} (h : j < l.length) : rd l (j : Int) = l[j] := by unfold rd; simp [h]
theorem rdL_at {l : List (List Int)} {j : Nat} (h : j < l.length) : rd_L4 l (j : Int) = l[j] := by unfold rd_L4; simp [h]
theorem cast_succ (j : Nat) : (j : Int) + 1 = ((j + 1 : Nat) : Int) := by omega
end Go.Proofs.Ytgcdeablfoomhaa.PAll
end
section
set_option linter.unusedVariables false
set_option linter.unusedSimpArgs false
namespace Go.Proofs.Ytgcdeablfoomhaa.PAll
open Go.RowKit Go.Proofs.YtgcdeablfoomhaaW.PrintWords Go.Proofs.YtgcdeablfoomhaaW.PrintLast Go.Proofs.YtgcdeablfoomhaaW.PrintMore
/-- A state that is read: its three slices. -/
structure SR (w : World) (A0 : Option Addr) (c0 : Nat) (l0 : List (List Int)) (A1 : Option Addr) (c1 : Nat) (l1 : List Int) (A2 : Option Addr) (c2 : Nat) (l2 : List Int) : Prop where
  r0 : Kd.C (Kd.slice 3 (Kd.int .i64)) w A0 l0.length l0
  h0 : l0.length ≤ c0
  r1 : Kd.C (Kd.int .i64) w A1 l1.length l1
  h1 : l1.length ≤ c1
  r2 : Kd.C (Kd.int .i64) w A2 l2.length l2
  h2 : l2.length ≤ c2
section
variable {w w' : World} {A0 A1 A2 : Option Addr} {c0 c1 c2 : Nat} {l0 : List (List Int)} {l1 l2 : List Int}
theorem SR.below (h : SR w A0 c0 l0 A1 c1 l1 A2 c2 l2) (hb : Below w.heap.size w w') : SR w' A0 c0 l0 A1 c1 l1 A2 c2 l2 := ⟨Kd.C_below h.r0 hb, h.h0, Kd.C_below h.r1 hb, h.h1, Kd.C_below h.r2 hb, h.h2⟩
end
end Go.Proofs.Ytgcdeablfoomhaa.PAll
end
