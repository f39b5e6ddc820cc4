/- enumerate.Count. -/
import Derived.Test.YtgcdeablfoomhaaCnt0
set_option linter.unusedVariables false
set_option linter.unusedSimpArgs false
namespace Go.Proofs.Ytgcdeablfoomhaa.PAll
open Go.RowKit Go.Proofs.YtgcdeablfoomhaaW.PrintWords Go.Proofs.YtgcdeablfoomhaaW.PrintLast Go.Proofs.YtgcdeablfoomhaaW.PrintMore

def facO (v bl : Int) (x : S48) : Int := if x.f1 = 1 then v else if x.f1 = 2 then powO v x.f2.toNat else upO v (bl.toNat + 1)
def stepO (v bl n : Int) (x : S48) : Int := timesO n (facO v bl x)
def cntO (vars : List S48) (bv bl bi : Int) : Int := vars.foldl (stepO (2 * bv + 1) bl) (upO (2 * bv + 1) (bi.toNat + 1))
def cntN (vars : List S48) (bv bl bi : Int) : Int := if validB vars bv bl bi = true then (if 1099511627776 < cntO vars bv bl bi then 0 else cntO vars bv bl bi) else 0
def cntE (vars : List S48) (bv bl bi : Int) : Int := if validB vars bv bl bi = true then (if 1099511627776 < cntO vars bv bl bi then 5 else 0) else 1
def cntRet (vars : List S48) (bv bl bi : Int) : Value := .tuple #[.int .i64 (cntN vars bv bl bi), .int .i64 (cntE vars bv bl bi)]
theorem cntRet_gt {vars : List S48} {bv bl bi q : Int} (h : validB vars bv bl bi = true) (hq : q = cntO vars bv bl bi) (hg : 1099511627776 < q) : Ending.returned (.tuple #[.int .i64 0, .int .i64 5]) = .returned (cntRet vars bv bl bi) := by
  unfold cntRet cntN cntE
  rw [if_pos h, if_pos h, ← hq, if_pos hg, if_pos hg]
theorem cntRet_le {vars : List S48} {bv bl bi q : Int} (h : validB vars bv bl bi = true) (hq : q = cntO vars bv bl bi) (hg : ¬ 1099511627776 < q) : Ending.returned (.tuple #[.int .i64 q, .int .i64 0]) = .returned (cntRet vars bv bl bi) := by
  unfold cntRet cntN cntE
  rw [if_pos h, if_pos h, ← hq, if_neg hg, if_neg hg]
theorem valid_box {vars : List S48} {bv bl bi : Int} (h : validB vars bv bl bi = true) : vars.length ≤ 32 ∧ (0 ≤ bv ∧ bv ≤ 1000) ∧ (0 ≤ bl ∧ bl ≤ 1000) ∧ (0 ≤ bi ∧ bi ≤ 1000) ∧ ∀ x ∈ vars, okV x = true := by
  unfold validB okB at h
  simp only [Bool.and_eq_true, decide_eq_true_eq, List.all_eq_true] at h
  exact ⟨h.1.1, h.1.2.1.1, h.1.2.1.2, h.1.2.2, h.2⟩
theorem facO_ok {v bl : Int} {x : S48} (h : 1 ≤ v) (h2 : v ≤ 1099511627777) : 1 ≤ facO v bl x ∧ facO v bl x ≤ 1099511627777 := by
  unfold facO
  split
  · omega
  · split
    · exact powO_ok h _
    · exact ⟨upO_pos h _, (upO_ok h _).2⟩
theorem fold_ok {v bl : Int} (h : 1 ≤ v) (h2 : v ≤ 1099511627777) : ∀ (l : List S48) (n : Int), 0 ≤ n → n ≤ 1099511627777 → 0 ≤ l.foldl (stepO v bl) n ∧ l.foldl (stepO v bl) n ≤ 1099511627777
  | [], n, h3, h4 => ⟨h3, h4⟩
  | x :: r, n, h3, h4 => fold_ok h h2 r _ (satO_0 (Int.mul_nonneg h3 (by have := facO_ok (bl := bl) (x := x) h h2; omega))) (satO_le _)
theorem fold_take {v bl n : Int} {l : List S48} {i : Nat} (h : i < l.length) (x : S48) (hx : x = l[i]) : (l.take (i + 1)).foldl (stepO v bl) n = stepO v bl ((l.take i).foldl (stepO v bl) n) x := by
  rw [List.take_succ_eq_append_getElem h, List.foldl_append, hx]; rfl

set_option maxRecDepth 100000 in
set_option maxHeartbeats 8000000 in
theorem count_bad (vars : List S48) (bv bl bi : Int) (A0 : Option Addr) (c0 : Nat) (W : World) (hvB : validB vars bv bl bi = false) (hc0 : vars.length ≤ c0) (hr : Kd.C k48 W A0 vars.length vars) :
    Calls Try.prog 26 #[.slice A0 vars.length c0, .agg #[.int .i64 bv, .int .i64 bl, .int .i64 bi]] W fun e w' => e = .returned (.tuple #[.int .i64 0, .int .i64 1]) ∧ Below W.heap.size W w' := by
  obtain ⟨kv, hkv⟩ := valid_f vars bv bl bi
  rw [hvB] at hkv
  have HR := Lib.hid hr
  have HKV := Lib.hid hkv
  clear hr hkv
  go_enter Try.func26, Try.ntmps26
  go_wp2_with (fail)
  refine (enumerate_valid.calls kv A0 c0 vars bv bl bi false _ (Kd.C_below HR.out (below_alloc (Below.refl _ _) _)) hc0 HKV.out).mono ?_
  rintro e w1 ⟨rfl, hb⟩
  have HB1 := Lib.hid ((below_alloc (Below.refl _ _) _).trans (hb.mono (by simp)))
  clear hb
  go_wp2
  go_ret2
  exact ⟨rfl, HB1.out⟩

set_option maxRecDepth 100000 in
set_option maxHeartbeats 16000000 in
theorem count_ok (vars : List S48) (bv bl bi : Int) (A0 : Option Addr) (c0 : Nat) (W : World) (hvB : validB vars bv bl bi = true) (hc0 : vars.length ≤ c0) (hr : Kd.C k48 W A0 vars.length vars) :
    Calls Try.prog 26 #[.slice A0 vars.length c0, .agg #[.int .i64 bv, .int .i64 bl, .int .i64 bi]] W fun e w' => e = .returned (cntRet vars bv bl bi) ∧ Below W.heap.size W w' := by
  obtain ⟨kv, hkv⟩ := valid_f vars bv bl bi
  rw [hvB] at hkv
  obtain ⟨hlen, hbv, hbl, hbi, hok⟩ := valid_box hvB
  obtain ⟨nl, rfl⟩ : ∃ n : Nat, bl = n := ⟨bl.toNat, by omega⟩
  obtain ⟨ni, rfl⟩ : ∃ n : Nat, bi = n := ⟨bi.toNat, by omega⟩
  obtain ⟨v, hve⟩ : ∃ v : Int, v = 2 * bv + 1 := ⟨_, rfl⟩
  have hv1 : 1 ≤ v := by omega
  have hv2 : v ≤ 1099511627777 := by omega
  have hlen' : (vars.length : Int) ≤ 32 := by omega
  have HR := Lib.hid hr
  have HKV := Lib.hid hkv
  have HOK := Lib.hid hok
  have HVE := Lib.hid hve
  clear hr hkv hok
  go_enter Try.func26, Try.ntmps26
  go_wp2_with (fail)
  obtain ⟨wb, hwb⟩ : ∃ wb, wb = W.alloc (.cells #[.int .i64 bv, .int .i64 (nl : Int), .int .i64 (ni : Int)] 24) := ⟨_, rfl⟩
  obtain ⟨Bb, hBb⟩ : ∃ b, b = W.heap.size := ⟨_, rfl⟩
  rw [← hwb, ← hBb]
  have bb : Below W.heap.size W wb := by rw [hwb]; exact below_alloc (Below.refl _ _) _
  have hcells : wb.heap[Bb]? = some (.cells #[.int .i64 bv, .int .i64 (nl : Int), .int .i64 (ni : Int)] 24 (0, 0)) := by rw [hwb, hBb]; exact World.alloc_heap_new W _
  clear hwb hBb
  refine (enumerate_valid.calls kv A0 c0 vars bv nl ni true _ (Kd.C_below HR.out bb) hc0 HKV.out).mono ?_
  rintro e w1 ⟨rfl, hb⟩
  have hcells1 := (hb.block Bb (Array.getElem?_eq_some_iff.1 hcells).1).trans hcells
  have HB1 := Lib.hid (bb.trans (hb.mono bb.size))
  have f0 : w1.cell? ⟨Bb, 0, none⟩ = some (.int .i64 bv) := by simp [World.cell?, hcells1]
  have f1 : w1.cell? ⟨Bb, 1, none⟩ = some (.int .i64 nl) := by simp [World.cell?, hcells1]
  have f2 : w1.cell? ⟨Bb, 2, none⟩ = some (.int .i64 ni) := by simp [World.cell?, hcells1]
  clear hb bb hcells hcells1
  clear hve
  go_upto_region 4 with (fail)
  rw [← HVE.out]
  obtain ⟨V, hV⟩ : ∃ V, V = w1.heap.size := ⟨_, rfl⟩
  obtain ⟨w2, hw2⟩ : ∃ w2, w2 = w1.alloc (.cells #[.int .i64 v] 3) := ⟨_, rfl⟩
  rw [← hw2, ← hV]
  have b2 : Below w1.heap.size w1 w2 := by rw [hw2]; exact below_alloc (Below.refl _ _) _
  have hcv : w2.cell? ⟨V, 0, none⟩ = some (.int .i64 v) := by
    have h9 : w2.heap[V]? = some (.cells #[.int .i64 v] 3 (0, 0)) := by rw [hw2, hV]; exact World.alloc_heap_new w1 _
    simp [World.cell?, h9]
  have g1 := (b2.cell (World.block_lt_of_cell? _ _ f1)).trans f1
  have g2 := (b2.cell (World.block_lt_of_cell? _ _ f2)).trans f2
  have HB2 := Lib.hid (HB1.out.trans (b2.mono HB1.out.size))
  have HCV := Lib.hid hcv
  have HG1 := Lib.hid g1
  clear f0 f1 f2 hw2 hV b2 HB1
  go_wp2_with (fail)
  refine (up_calls ni V v _ hcv hv1 hv2 (by omega)).mono ?_
  rintro e w3 ⟨rfl, hb⟩
  obtain ⟨u0, hu0⟩ : ∃ u, u = upO v (ni + 1) := ⟨_, rfl⟩
  rw [← hu0]
  have hu0b := upO_ok hv1 (ni + 1)
  rw [← hu0] at hu0b
  have HU0 := Lib.hid hu0
  have HB3 := Lib.hid hb
  clear hb hu0 g1 g2 hcv
  go_wp2_with (fail)
  go_loopg [9, 28] vars.length (fun kq v9 v28 wr => ∃ (i : Nat), kq + i = vars.length ∧ v28 = .int .i64 i ∧ v9 = .int .i64 ((vars.take i).foldl (stepO v nl) u0) ∧ Aside0 (Below w2.heap.size w2 wr))
  case atStart => exact ⟨0, rfl, rfl, rfl, ⟨HB3.out⟩⟩
  case round =>
    clear HB3
    obtain ⟨i, hik, rfl, rfl, HB⟩ := hrel
    have hfo := fold_ok (bl := (nl : Int)) hv1 hv2 (vars.take i) u0 hu0b.1 hu0b.2
    by_cases hi : i < vars.length
    · have hid : decide (i < vars.length) = true := decide_eq_true hi
      obtain ⟨ad, hA, hx0, hx1, hx2⟩ := at_T48 (Kd.C_below HR.out (HB2.out.trans (HB.out.mono HB2.out.size))) (i : Int) (by omega) (by omega)
      subst hA
      have p1 : (0 ≤ (i : Int)) = True := eq_true (by omega)
      have p2 : ((i : Int) < (vars.length : Int)) = True := eq_true (by omega)
      have p3 : (i < vars.length) = True := eq_true hi
      obtain ⟨vd, hvd⟩ : ∃ vd, vd = rd_T48 vars (i : Int) := ⟨_, rfl⟩
      rw [← hvd] at hx0 hx1 hx2
      simp only [Int.toNat_natCast] at hx0 hx1 hx2
      have hvl : vd = vars[i] := by rw [hvd]; unfold rd_T48; simp [hi]
      have htk := fold_take (v := v) (bl := (nl : Int)) (n := u0) hi vd hvl
      have hvo := HOK.out vd (by rw [hvl]; exact List.getElem_mem hi)
      obtain ⟨q, hq⟩ : ∃ q, q = (vars.take i).foldl (stepO v nl) u0 := ⟨_, rfl⟩
      rw [← hq] at hfo htk ⊢
      have hfc := facO_ok (bl := (nl : Int)) (x := vd) hv1 hv2
      have hcv := (HB.out.cell (World.block_lt_of_cell? _ _ HCV.out)).trans HCV.out
      have hg1 := (HB.out.cell (World.block_lt_of_cell? _ _ HG1.out)).trans HG1.out
      have HTF := Lib.hid (times_f hfo.1 hfo.2 hfc.1 hfc.2)
      have HTK := Lib.hid htk
      have HVO := Lib.hid hvo
      clear hvd hvl htk hvo hq hfo hfc
      go_upto_region 10 with (fail)
      obtain ⟨wa, hwa⟩ : ∃ wa, wa = wr.alloc (.cells #[.string vd.f0, .int .u8 vd.f1, .int .i64 vd.f2] 48) := ⟨_, rfl⟩
      obtain ⟨y, hy⟩ : ∃ y, y = wr.heap.size := ⟨_, rfl⟩
      rw [← hwa, ← hy]
      have hba : Below wr.heap.size wr wa := by rw [hwa]; exact below_alloc (Below.refl _ _) _
      have hbv2 : BoxV wa y vd := by rw [hwa, hy]; exact World.alloc_heap_new wr _
      have HBA := Lib.hid (HB.out.trans (hba.mono HB.out.size))
      have hcv2 := (hba.cell (World.block_lt_of_cell? _ _ hcv)).trans hcv
      have hg12 := (hba.cell (World.block_lt_of_cell? _ _ hg1)).trans hg1
      clear HB hwa hy hba hx0 hx1 hx2 hcv hg1
      have hx1 := hbv2.c1
      have hx2 := hbv2.c2
      clear hbv2
      by_cases k1 : vd.f1 = 1
      · have k1b : (vd.f1 == 1) = true := by simpa using k1
        have hf : facO v nl vd = v := by unfold facO; rw [if_pos k1]
        have htf := HTF.out
        rw [hf] at htf
        have htk : (vars.take (i + 1)).foldl (stepO v nl) u0 = timesO q v := by rw [HTK.out]; unfold stepO; rw [hf]
        have HTF2 := Lib.hid htf
        have HTK2 := Lib.hid htk
        clear k1 hf htf htk HTF HTK hx2 hg12
        go_wp2_with (fail)
        refine (enumerate_times.calls _ _ _ _ HTF2.out).mono ?_
        rintro e w5 ⟨rfl, hb⟩
        have HB5 := Lib.hid (HBA.out.trans (hb.mono HBA.out.size))
        clear hb hcv2 hx1
        go_wp2
        go_roundg (vars.length - (i + 1))
        case measure => omega
        case rel => exact ⟨i + 1, by omega, by go_num, by rw [HTK2.out], ⟨HB5.out⟩⟩
      · have k1b : (vd.f1 == 1) = false := by simpa using k1
        by_cases k2 : vd.f1 = 2
        · have k2b : (vd.f1 == 2) = true := by simpa using k2
          have hmm : 1 ≤ vd.f2 ∧ vd.f2 ≤ 16 := by
            have h9 := HVO.out
            unfold okV at h9
            simp only [k2, Bool.and_eq_true, Bool.or_eq_true, decide_eq_true_eq] at h9
            omega
          obtain ⟨m, hm⟩ : ∃ m : Nat, vd.f2 = m := ⟨vd.f2.toNat, by omega⟩
          have hf : facO v nl vd = powO v m := by unfold facO; rw [if_neg k1, if_pos k2, hm]; rfl
          have htf := HTF.out
          rw [hf] at htf
          have htk : (vars.take (i + 1)).foldl (stepO v nl) u0 = timesO q (powO v m) := by rw [HTK.out]; unfold stepO; rw [hf]
          rw [hm] at hx2
          have hmb : m ≤ 16 := by omega
          have HTF2 := Lib.hid htf
          have HTK2 := Lib.hid htk
          clear k1 k2 hf htf htk HTF HTK hg12 hm hmm
          go_wp2_with (fail)
          refine (pow_calls m V v _ hcv2 hv1 hv2 (by omega)).mono ?_
          rintro e w4 ⟨rfl, hb⟩
          have HB4 := Lib.hid (HBA.out.trans (hb.mono HBA.out.size))
          clear hb hcv2 hx1 hx2
          go_wp2_with (fail)
          refine (enumerate_times.calls _ _ _ _ HTF2.out).mono ?_
          rintro e w5 ⟨rfl, hb⟩
          have HB5 := Lib.hid (HB4.out.trans (hb.mono HB4.out.size))
          clear hb
          go_wp2
          go_roundg (vars.length - (i + 1))
          case measure => omega
          case rel => exact ⟨i + 1, by omega, by go_num, by rw [HTK2.out], ⟨HB5.out⟩⟩
        · have k2b : (vd.f1 == 2) = false := by simpa using k2
          have hf : facO v nl vd = upO v (nl + 1) := by unfold facO; rw [if_neg k1, if_neg k2]; rfl
          have htf := HTF.out
          rw [hf] at htf
          have htk : (vars.take (i + 1)).foldl (stepO v nl) u0 = timesO q (upO v (nl + 1)) := by rw [HTK.out]; unfold stepO; rw [hf]
          have HTF2 := Lib.hid htf
          have HTK2 := Lib.hid htk
          clear k1 k2 hf htf htk HTF HTK hx2
          go_wp2_with (fail)
          refine (up_calls nl V v _ hcv2 hv1 hv2 (by omega)).mono ?_
          rintro e w4 ⟨rfl, hb⟩
          have HB4 := Lib.hid (HBA.out.trans (hb.mono HBA.out.size))
          clear hb hcv2 hx1 hg12
          go_wp2_with (fail)
          refine (enumerate_times.calls _ _ _ _ HTF2.out).mono ?_
          rintro e w5 ⟨rfl, hb⟩
          have HB5 := Lib.hid (HB4.out.trans (hb.mono HB4.out.size))
          clear hb
          go_wp2
          go_roundg (vars.length - (i + 1))
          case measure => omega
          case rel => exact ⟨i + 1, by omega, by go_num, by rw [HTK2.out], ⟨HB5.out⟩⟩
    · have hid : decide (i < vars.length) = false := decide_eq_false hi
      have hie : i = vars.length := by omega
      have hq : (vars.take i).foldl (stepO v nl) u0 = cntO vars bv nl ni := by
        rw [hie, List.take_of_length_le (Nat.le_refl _), HU0.out, HVE.out]; rfl
      obtain ⟨q, hqq⟩ : ∃ q, q = (vars.take i).foldl (stepO v nl) u0 := ⟨_, rfl⟩
      rw [← hqq] at hq hfo ⊢
      have HBE := Lib.hid (HB2.out.trans (HB.out.mono HB2.out.size))
      have HQQ := Lib.hid hq
      clear hq hie hqq HB
      by_cases hgt : 1099511627776 < q
      · have d1 : decide (1099511627776 < q) = true := decide_eq_true hgt
        go_wp2
        go_ret2
        exact ⟨cntRet_gt hvB HQQ.out hgt, HBE.out⟩
      · have d1 : decide (1099511627776 < q) = false := decide_eq_false hgt
        go_wp2
        go_ret2
        exact ⟨cntRet_le hvB HQQ.out (Int.not_lt.2 hgt), HBE.out⟩
theorem count_calls (vars : List S48) (bv bl bi : Int) (A0 : Option Addr) (c0 : Nat) (W : World) (hc0 : vars.length ≤ c0) (hr : Kd.C k48 W A0 vars.length vars) :
    Calls Try.prog 26 #[.slice A0 vars.length c0, .agg #[.int .i64 bv, .int .i64 bl, .int .i64 bi]] W fun e w' => e = .returned (.tuple #[.int .i64 (cntN vars bv bl bi), .int .i64 (cntE vars bv bl bi)]) ∧ Below W.heap.size W w' := by
  cases hvB : validB vars bv bl bi with
  | true => exact count_ok vars bv bl bi A0 c0 W hvB hc0 hr
  | false =>
    have h := count_bad vars bv bl bi A0 c0 W hvB hc0 hr
    unfold cntN cntE
    rw [hvB]
    exact h
end Go.Proofs.Ytgcdeablfoomhaa.PAll
