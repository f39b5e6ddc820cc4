/- pebble.Bennett: the closure 'strategy', called at a and m with the two boxes that it captures, returns a new slice that reads as strat k f a m; nothing that was there changes. -/
import Derived.Test.YtpkamififbhheaaHelp
import Derived.Test.YtpkamififbhheaaBenS
import Derived.Test.YtpkamififbhheaaRound
import Derived.BigQuiet
import Derived.Deep.QuietTactic
import Derived.Outline
import Derived.Test.YtpkamififbhheaaWMore
set_option linter.unusedVariables false
set_option linter.unusedSimpArgs false
namespace Go.Proofs.Ytpkamififbhheaa
open Go.RowKit Go.Shelf Go.Proofs.YtpkamififbhheaaW.PrintWords
attribute [local go_sem] Oper.semAt_some
open Go.Proofs.YtpkamififbhheaaW.PrintMore
attribute [local go_sem] max2_int min2_int max_two min_two

theorem Boxed.drew {W : World} {B : Nat} {t : TypeId} {v : Value} (h : Boxed W B t v) : Boxed W.drew B t v := h
theorem infoI23 : (Try.prog.info? 23).map (fun i => (i.zero, i.size, i.bytes)) = some (some (.slice none 0 0), 1, 24) := by kernel_rfl

abbrev stratV (Bk Bs : Nat) : Value := .func (.func 25) #[] #[.pointer (some ⟨Bk, 0, none⟩), .pointer (some ⟨Bs, 0, none⟩)]
/-- The contract of the closure at fuel f. -/
def StratAt (k : Int) (f : Nat) : Prop := ∀ (a m : Int) (w : World) (Bk Bs : Nat), 1 ≤ m → m ≤ f → m ≤ 500 → 0 ≤ a → a + m ≤ 1000 → (strat k f a m).length ≤ 8589934592 →
  Boxed w Bk 3 (.int .i64 k) → Boxed w Bs 44 (stratV Bk Bs) →
  Calls Try.prog 25 #[.int .i64 a, .int .i64 m, .pointer (some ⟨Bk, 0, none⟩), .pointer (some ⟨Bs, 0, none⟩)] w fun e w' => ∃ v, e = .returned v ∧ Kd.R (Kd.int .i64) 3 w' w.heap.size (fun _ => True) v (strat k f a m) ∧ Below w.heap.size w w'

set_option maxRecDepth 100000 in
set_option maxHeartbeats 4000000 in
theorem strat_step (k : Int) (hk2 : 2 ≤ k) (hk5 : k ≤ 500) (f : Nat) (ih : StratAt k f) : StratAt k (f + 1) := by
  intro a m w Bk Bs hm1 hmf hm5 ha ham hlen hBk hBs
  have IH := Lib.hid ih
  clear ih
  by_cases hm : m = 1
  · subst hm
    have hs : strat k (f + 1) a 1 = [a + 1] := by simp [strat]
    rw [hs]
    have hBkc := hBk.cell
    go_enter Try.func25, Try.ntmps25
    go_wp2
    go_ret
    refine ⟨_, rfl, ?_, (Below.refl _ _).alloc (Nat.le_refl _) _⟩
    exact Kd.R_of_own (own_lit w w.heap.size 3 .i64 [a + 1] (Nat.le_refl _) (by simp)) (fun _ _ => trivial)
  · obtain ⟨p, hp⟩ : ∃ p, p = (if k < m then k else m) := ⟨_, rfl⟩
    have hp2 : 2 ≤ p := by rw [hp]; split <;> omega
    have hpm : p ≤ m := by rw [hp]; split <;> omega
    have hp5 : p ≤ 500 := by omega
    have hpm' : (if m < k then m else k) = p := by rw [hp]; split <;> split <;> omega
    obtain ⟨full, hfull⟩ : ∃ full, full = bparts (strat k f) m p p.toNat 0 a := ⟨_, rfl⟩
    have hst : strat k (f + 1) a m = full.flatten ++ (full.dropLast.reverse.map negRev).flatten := by
      rw [hfull, hp]
      simp only [strat]
      rw [if_neg hm]
    rw [hst] at hlen ⊢
    have HF := Lib.hid hfull
    clear hfull hst hp
    have hBkc := hBk.cell
    have hmb : (m == 1) = false := by simpa using hm
    have hnf : m / p ≤ 500 := Int.le_trans (Int.ediv_le_self _ (by omega)) hm5
    have hnf0 : 0 ≤ m / p := Int.ediv_nonneg (by omega) (by omega)
    refine (callsIn_wide (n := 3)).1 (callsIn_of_wp_marks Try.func25 rfl trivial (wpIn_wide.2 ?_) rfl)
    simp only [Try.ntmps25, List.size_toArray, List.length_cons, List.length_nil, Nat.reduceAdd, Nat.reduceSub, Array.replicate_succ, Array.replicate_zero, List.push_toArray, List.append_toArray, List.nil_append, List.cons_append]
    go_wp2
    have HMIN := Lib.hid hpm'
    clear hpm'
    have hBsc := hBs.cell
    have hBkl := hBk.lt
    have hBsl := hBs.lt
    have hmo0 : 0 ≤ m % p := Int.emod_nonneg m (by omega)
    have hmo1 : m % p < p := Int.emod_lt_of_pos m (by omega)
    go_loopw [0, 9, 24] (fun va vp vi wr => ∃ (i : Nat) (done : List (List Int)) (outv : Value), (i : Int) ≤ p ∧ vi = .int .i64 i ∧ va = .int .i64 (a + offAt m p i) ∧ Aside0 (full = done ++ bparts (strat k f) m p (p.toNat - i) i (a + offAt m p i)) ∧ Aside0 (done.length = i) ∧
        Aside0 (Boxed wr w.heap.size 23 outv) ∧ Aside0 ((Kd.int .i64).R 3 wr (w.heap.size + 1) (fun _ => True) outv done.flatten) ∧ Aside0 ((Kd.slice 3 (Kd.int .i64)).R 23 wr (w.heap.size + 1) (fun q => some q ≠ outv.ownBlock) vp done) ∧ Aside0 (Below w.heap.size w wr))
      (fun _ _ vi _ => (p - intOf vi).toNat)
    case atStart =>
      refine ⟨0, [], .slice none 0 0, by omega, rfl, ?_, ⟨?_⟩, ⟨rfl⟩, ⟨Boxed.new w 23 _⟩, ⟨Kd.R_nil _ _ _ _ _⟩, ⟨Kd.R_nil _ _ _ _ _⟩, ⟨(Below.refl _ _).alloc (Nat.le_refl _) _⟩⟩
      · show _ = Value.int .i64 (a + offAt m p ((0 : Nat) : Int))
        rw [show ((0 : Nat) : Int) = 0 from rfl, offAt_zero (by omega), Int.add_zero]
      · have := HF.out
        rw [show ((0 : Nat) : Int) = 0 from rfl, offAt_zero (by omega), Int.add_zero]
        simpa using this
    case round =>
      obtain ⟨i, done, outv, hip, rfl, rfl, HFD, HDL, HBX, HOO, HOP, HB⟩ := hrel
      have hbk' := (Boxed.cell ((HB.out.block Bk hBkl).trans hBk))
      have hbs' := (Boxed.cell ((HB.out.block Bs hBsl).trans hBs))
      by_cases hi : (i : Int) < p
      · have hsb := sizeAt_bd (m := m) (p := p) (i := (i : Int)) (by omega) hp2 hpm
        have hof := offAt_bd (m := m) (p := p) (i := (i : Int)) (by omega) (by omega) (by omega) (by omega)
        have hof2 := offAt_bd (m := m) (p := p) (i := (i : Int) + 1) (by omega) (by omega) (by omega) (by omega)
        have hos := offAt_succ m p i
        obtain ⟨s, hs⟩ : ∃ s, s = sizeAt m p i := ⟨_, rfl⟩
        obtain ⟨A, hA⟩ : ∃ A, A = a + offAt m p i := ⟨_, rfl⟩
        have hA0 : 0 ≤ A := by omega
        have hAs : A + s ≤ 1000 := by omega
        have hs1 : 1 ≤ s := by omega
        have hsm : s < m := by omega
        have hrest : full = done ++ (strat k f A s :: bparts (strat k f) m p (p.toNat - (i + 1)) ((i : Int) + 1) (A + s)) := by
          have h1 := HFD.out
          obtain ⟨q, hq⟩ : ∃ q, p.toNat - i = q + 1 := ⟨p.toNat - i - 1, by omega⟩
          rw [hq] at h1
          rw [h1, show p.toNat - (i + 1) = q from by omega, hs, hA]
          rfl
        have hnext : a + offAt m p ((i + 1 : Nat) : Int) = A + s := by rw [show ((i + 1 : Nat) : Int) = (i : Int) + 1 from by omega]; omega
        have HNX := Lib.hid hnext
        have HRE := Lib.hid hrest
        have hfl : full.flatten.length ≤ 8589934592 := by rw [List.length_append] at hlen; omega
        have hpl : (strat k f A s).length ≤ 8589934592 ∧ done.flatten.length + (strat k f A s).length ≤ 8589934592 := by
          rw [hrest] at hfl
          simp only [List.flatten_append, List.flatten_cons, List.length_append] at hfl
          omega
        rw [← hA]
        have HA := Lib.hid hA
        have hss : (i < m % p ∧ s = m / p + 1) ∨ (¬ i < m % p ∧ s = m / p) := by
          rw [hs]; unfold sizeAt; split <;> simp_all
        clear hA hs hos hof hof2 hnext hrest hfl hsb
        clear HFD
        rcases hss with ⟨hlt, rfl⟩ | ⟨hlt, rfl⟩
        ·
          obtain ⟨dl, hdl⟩ : ∃ dl, dl = done.flatten := ⟨_, rfl⟩
          rw [← hdl] at HOO hpl
          have HDF := Lib.hid hdl
          clear hdl
          obtain ⟨part, hpart⟩ : ∃ part, part = strat k f A (m / p + 1) := ⟨_, rfl⟩
          go_wp2_with fail
          refine (IH.out A _ wr Bk Bs hs1 (by omega) (by omega) hA0 hAs hpl.1 ((HB.out.block Bk hBkl).trans hBk) ((HB.out.block Bs hBsl).trans hBs)).mono ?_
          rintro e w1 ⟨v, rfl, hv, hb⟩
          rw [← hpart] at hv hpl
          have HPA := Lib.hid hpart
          clear hpart
          have hbz := HB.out.size
          have hbx1 : Boxed w1 w.heap.size 23 outv := box_below HBX.out hb
          have hoo1 := Kd.R_below HOO.out hb
          have hop1 := Kd.R_mono (ok' := fun q => True ∧ some q ≠ outv.ownBlock) (Kd.R_below HOP.out hb) (fun _ h => ⟨trivial, h⟩)
          have hsz0 : w.heap.size + 1 ≤ wr.heap.size := by have := HBX.out.lt; omega
          have hv1 := R_made hv (Kd.R_lt HOO.out) hsz0
          have hvs := Kd.R_slice hv
          obtain ⟨Av, cv, rfl⟩ := hvs
          have hc1 := hbx1.cell
          have hb1z := hb.size
          have HOO1 := Lib.hid hoo1
          have HOP1 := Lib.hid hop1
          have HV1 := Lib.hid hv1
          have HPL := Lib.hid hpl
          have HVR := Lib.hid (Kd.R_reads' hv).2.2
          clear hoo1 hop1 hv1 hv hpl
          go_upto_region 15 with ((with_reducible refine gate_builtin (b := .append) (xs := #[.tmp 44, .tmp 45]) rfl ?_); at_builtin; refine Kd.R_append_rows (Kd.int .i64) (w0 := w1) (w.heap.size + 1) rfl (.tmp 44) (.tmp 45) 23 3 (.int .i64 0) 8 rfl Try.underlying23 infoI3 rfl (by decide) (by omega) outv dl part Av part.length cv (fun _ => True) (fun _ => False) rfl rfl HOO1.out HVR.out (fun _ _ h => h) (fun _ h => h.elim) (fun _ _ => trivial) (Below.refl _ _) (by omega) (by have := HPL.out.2; omega) ?_; intro v1 w2 ho hb2 hg hat; obtain ⟨A1, c1, rfl⟩ := Kd.R_slice ho; have hbx2 : Boxed w2 w.heap.size 23 outv := hbx1.kept hg (box_ne HOO1.out (by omega)); have hc2 := hbx2.cell; have hf2 := hbx2.frozen)
          obtain ⟨W3, hW3⟩ : ∃ W3, W3 = w2.setCell ⟨w.heap.size, 0, none⟩ (.slice A1 (dl ++ part).length c1) := ⟨_, rfl⟩
          have hbx3 : Boxed W3 w.heap.size 23 (.slice A1 (dl ++ part).length c1) := by rw [hW3]; exact hbx2.set _
          have hoo3 : (Kd.int .i64).R 3 W3 (w.heap.size + 1) (fun _ => True) (.slice A1 (dl ++ part).length c1) (dl ++ part) := by rw [hW3]; exact R_setBox ho (by omega) _
          have hop3 : (Kd.slice 3 (Kd.int .i64)).R 23 W3 (w.heap.size + 1) (fun q => some q ≠ (Value.slice A1 (dl ++ part).length c1).ownBlock) u9 done := by
            rw [hW3]; exact Kd.R_mono (R_setBox (Kd.R_after (ok := fun _ => True) HOP1.out hg hat) (by omega) _) (fun _ h => h.2)
          have hv3 : (Kd.int .i64).R 3 W3 (w.heap.size + 1) (fun q => some q ≠ (Value.slice A1 (dl ++ part).length c1).ownBlock ∧ some q ≠ u9.ownBlock) (.slice Av part.length cv) part := by
            rw [hW3]
            refine Kd.R_mono (R_setBox (Kd.R_after (ok := fun q => wr.heap.size ≤ q) HV1.out hg hat) (by omega) _) (fun q h => ⟨h.2, fun e => ?_⟩)
            have := Kd.R_lt HOP.out q e.symm
            have := h.1
            omega
          have hB3 : Below w.heap.size w W3 := by rw [hW3]; exact ((HB.out.trans (hb.mono hbz)).trans (hb2.mono (by omega))).setCell (p := ⟨w.heap.size, 0, none⟩) (Nat.le_refl _) _
          have hz3 : w.heap.size + 1 ≤ W3.heap.size := by have := hbx3.lt; omega
          have hW3' : w2.setCell ⟨w.heap.size, 0, none⟩ (.slice A1 (dl.length + part.length) c1) = W3 := by rw [hW3, List.length_append]
          rw [hW3']
          clear hW3 hW3' ho hb2 hg hat hbx2 hc2 hf2 hc1 hbx1 HOO1 HOP1 HV1 HVR HOP HOO HBX hb hbk' hbs' HB
          have HOO3 := Lib.hid hoo3
          have HOP3 := Lib.hid hop3
          have HV3 := Lib.hid hv3
          have HBX3 := Lib.hid hbx3
          have HB3 := Lib.hid hB3
          have hdl : (done.length : Int) ≤ 500 := by have := HDL.out; omega
          clear hoo3 hop3 hv3 hbx3 hB3
          go_wp2_with ((with_reducible refine gate_builtin (b := .append) (xs := #[.tmp 47, .tmp 49]) rfl ?_); at_builtin; refine Kd.R_append (Kd.slice 3 (Kd.int .i64)) (w0 := W3) (w.heap.size + 1) rfl (.tmp 47) (.tmp 49) 41 23 (.slice none 0 0) 24 rfl Try.underlying41 infoI23 rfl (by decide) (by omega) u9 done part [.slice Av part.length cv] (fun q => some q ≠ (Value.slice A1 (dl ++ part).length c1).ownBlock) (fun q => some q ≠ (Value.slice A1 (dl ++ part).length c1).ownBlock ∧ some q ≠ u9.ownBlock) rfl rfl (Kd.M_row HV3.out) (fun _ h => h) (fun q hq e => by have := Kd.R_lt HOO3.out q e.symm; omega) HOP3.out (Below.refl _ _) (by omega) (by omega) ?_; intro v5 w5 ho5 hb5 hg5 hat5)
          go_roundw
          case measure => simp [intOf]; omega
          case rel =>
            refine ⟨i + 1, done ++ [part], .slice A1 (dl ++ part).length c1, by omega, by go_num, by rw [HNX.out], ⟨?_⟩, ⟨?_⟩, ⟨HBX3.out.kept hg5 (box_ne HOP3.out (by omega))⟩, ⟨?_⟩, ⟨ho5⟩, ⟨HB3.out.trans (hb5.mono (by omega))⟩⟩
            · rw [HNX.out, HRE.out, HPA.out, show ((i + 1 : Nat) : Int) = (i : Int) + 1 from by omega]; simp
            · rw [List.length_append, HDL.out]; rfl
            · have := Kd.R_over HOO3.out HOP3.out (by decide) hg5
              rw [List.flatten_append, ← HDF.out]
              simpa using this
        ·
          obtain ⟨dl, hdl⟩ : ∃ dl, dl = done.flatten := ⟨_, rfl⟩
          rw [← hdl] at HOO hpl
          have HDF := Lib.hid hdl
          clear hdl
          obtain ⟨part, hpart⟩ : ∃ part, part = strat k f A (m / p) := ⟨_, rfl⟩
          go_wp2_with fail
          refine (IH.out A _ wr Bk Bs hs1 (by omega) (by omega) hA0 hAs hpl.1 ((HB.out.block Bk hBkl).trans hBk) ((HB.out.block Bs hBsl).trans hBs)).mono ?_
          rintro e w1 ⟨v, rfl, hv, hb⟩
          rw [← hpart] at hv hpl
          have HPA := Lib.hid hpart
          clear hpart
          have hbz := HB.out.size
          have hbx1 : Boxed w1 w.heap.size 23 outv := box_below HBX.out hb
          have hoo1 := Kd.R_below HOO.out hb
          have hop1 := Kd.R_mono (ok' := fun q => True ∧ some q ≠ outv.ownBlock) (Kd.R_below HOP.out hb) (fun _ h => ⟨trivial, h⟩)
          have hsz0 : w.heap.size + 1 ≤ wr.heap.size := by have := HBX.out.lt; omega
          have hv1 := R_made hv (Kd.R_lt HOO.out) hsz0
          have hvs := Kd.R_slice hv
          obtain ⟨Av, cv, rfl⟩ := hvs
          have hc1 := hbx1.cell
          have hb1z := hb.size
          have HOO1 := Lib.hid hoo1
          have HOP1 := Lib.hid hop1
          have HV1 := Lib.hid hv1
          have HPL := Lib.hid hpl
          have HVR := Lib.hid (Kd.R_reads' hv).2.2
          clear hoo1 hop1 hv1 hv hpl
          go_upto_region 15 with ((with_reducible refine gate_builtin (b := .append) (xs := #[.tmp 44, .tmp 45]) rfl ?_); at_builtin; refine Kd.R_append_rows (Kd.int .i64) (w0 := w1) (w.heap.size + 1) rfl (.tmp 44) (.tmp 45) 23 3 (.int .i64 0) 8 rfl Try.underlying23 infoI3 rfl (by decide) (by omega) outv dl part Av part.length cv (fun _ => True) (fun _ => False) rfl rfl HOO1.out HVR.out (fun _ _ h => h) (fun _ h => h.elim) (fun _ _ => trivial) (Below.refl _ _) (by omega) (by have := HPL.out.2; omega) ?_; intro v1 w2 ho hb2 hg hat; obtain ⟨A1, c1, rfl⟩ := Kd.R_slice ho; have hbx2 : Boxed w2 w.heap.size 23 outv := hbx1.kept hg (box_ne HOO1.out (by omega)); have hc2 := hbx2.cell; have hf2 := hbx2.frozen)
          obtain ⟨W3, hW3⟩ : ∃ W3, W3 = w2.setCell ⟨w.heap.size, 0, none⟩ (.slice A1 (dl ++ part).length c1) := ⟨_, rfl⟩
          have hbx3 : Boxed W3 w.heap.size 23 (.slice A1 (dl ++ part).length c1) := by rw [hW3]; exact hbx2.set _
          have hoo3 : (Kd.int .i64).R 3 W3 (w.heap.size + 1) (fun _ => True) (.slice A1 (dl ++ part).length c1) (dl ++ part) := by rw [hW3]; exact R_setBox ho (by omega) _
          have hop3 : (Kd.slice 3 (Kd.int .i64)).R 23 W3 (w.heap.size + 1) (fun q => some q ≠ (Value.slice A1 (dl ++ part).length c1).ownBlock) u9 done := by
            rw [hW3]; exact Kd.R_mono (R_setBox (Kd.R_after (ok := fun _ => True) HOP1.out hg hat) (by omega) _) (fun _ h => h.2)
          have hv3 : (Kd.int .i64).R 3 W3 (w.heap.size + 1) (fun q => some q ≠ (Value.slice A1 (dl ++ part).length c1).ownBlock ∧ some q ≠ u9.ownBlock) (.slice Av part.length cv) part := by
            rw [hW3]
            refine Kd.R_mono (R_setBox (Kd.R_after (ok := fun q => wr.heap.size ≤ q) HV1.out hg hat) (by omega) _) (fun q h => ⟨h.2, fun e => ?_⟩)
            have := Kd.R_lt HOP.out q e.symm
            have := h.1
            omega
          have hB3 : Below w.heap.size w W3 := by rw [hW3]; exact ((HB.out.trans (hb.mono hbz)).trans (hb2.mono (by omega))).setCell (p := ⟨w.heap.size, 0, none⟩) (Nat.le_refl _) _
          have hz3 : w.heap.size + 1 ≤ W3.heap.size := by have := hbx3.lt; omega
          have hW3' : w2.setCell ⟨w.heap.size, 0, none⟩ (.slice A1 (dl.length + part.length) c1) = W3 := by rw [hW3, List.length_append]
          rw [hW3']
          clear hW3 hW3' ho hb2 hg hat hbx2 hc2 hf2 hc1 hbx1 HOO1 HOP1 HV1 HVR HOP HOO HBX hb hbk' hbs' HB
          have HOO3 := Lib.hid hoo3
          have HOP3 := Lib.hid hop3
          have HV3 := Lib.hid hv3
          have HBX3 := Lib.hid hbx3
          have HB3 := Lib.hid hB3
          have hdl : (done.length : Int) ≤ 500 := by have := HDL.out; omega
          clear hoo3 hop3 hv3 hbx3 hB3
          go_wp2_with ((with_reducible refine gate_builtin (b := .append) (xs := #[.tmp 47, .tmp 49]) rfl ?_); at_builtin; refine Kd.R_append (Kd.slice 3 (Kd.int .i64)) (w0 := W3) (w.heap.size + 1) rfl (.tmp 47) (.tmp 49) 41 23 (.slice none 0 0) 24 rfl Try.underlying41 infoI23 rfl (by decide) (by omega) u9 done part [.slice Av part.length cv] (fun q => some q ≠ (Value.slice A1 (dl ++ part).length c1).ownBlock) (fun q => some q ≠ (Value.slice A1 (dl ++ part).length c1).ownBlock ∧ some q ≠ u9.ownBlock) rfl rfl (Kd.M_row HV3.out) (fun _ h => h) (fun q hq e => by have := Kd.R_lt HOO3.out q e.symm; omega) HOP3.out (Below.refl _ _) (by omega) (by omega) ?_; intro v5 w5 ho5 hb5 hg5 hat5)
          go_roundw
          case measure => simp [intOf]; omega
          case rel =>
            refine ⟨i + 1, done ++ [part], .slice A1 (dl ++ part).length c1, by omega, by go_num, by rw [HNX.out], ⟨?_⟩, ⟨?_⟩, ⟨HBX3.out.kept hg5 (box_ne HOP3.out (by omega))⟩, ⟨?_⟩, ⟨ho5⟩, ⟨HB3.out.trans (hb5.mono (by omega))⟩⟩
            · rw [HNX.out, HRE.out, HPA.out, show ((i + 1 : Nat) : Int) = (i : Int) + 1 from by omega]; simp
            · rw [List.length_append, HDL.out]; rfl
            · have := Kd.R_over HOO3.out HOP3.out (by decide) hg5
              rw [List.flatten_append, ← HDF.out]
              simpa using this
      · obtain rfl : p = (i : Int) := by omega
        obtain rfl : full = done := by
          have := HFD.out
          rw [show ((i : Int)).toNat - i = 0 from by omega] at this
          simpa [bparts] using this
        obtain ⟨q, rfl⟩ : ∃ q, i = q + 1 := ⟨i - 1, by omega⟩
        obtain ⟨g9, c9, hform, hg9, hg9l, _⟩ := Kd.R_form HOP.out (by rw [HDL.out]; omega)
        subst hform
        have hcap := (Kd.R_reads' HOP.out).2.1
        have HOPP := Lib.hid HOP.out
        rw [HDL.out] at hcap
        have hel : ∀ j, ∃ u, ∀ (h : j < q), wr.cell? ⟨g9, j, none⟩ = some u ∧ (Kd.int .i64).R 3 wr (w.heap.size + 1) (fun b => some b ≠ outv.ownBlock) u (full[j]'(by have := HDL.out; omega)) := fun j => by
          by_cases h : j < q
          · obtain ⟨g, u, hg, hc, hR⟩ := R_elem HOP.out j (by have := HDL.out; omega)
            obtain rfl : g9 = g := by simpa [Value.ownBlock] using hg
            exact ⟨u, fun _ => ⟨hc, Kd.R_mono hR (fun _ h => h.1)⟩⟩
          · exact ⟨undef, fun h' => absurd h' h⟩
        obtain ⟨vs, hvs⟩ := Classical.axiomOfChoice hel
        have HVS := Lib.hid hvs
        clear hel hvs HOP
        have hbxc := HBX.out.cell
        have hq5 : (q : Int) ≤ 500 := by omega
        have HHI := Lib.hid hi
        have HPM := Lib.hid hpm
        clear hi HFD hmo1 hmo0 hnf hnf0 HF
        rw [HDL.out]
        go_wp2_with (go_at_call 26; refine (callsIn_wide.1 (backward26_in Fence.wide 3 trivial rfl _ _ _ _)).mono ?_; rintro e w' ⟨rfl, rfl⟩)
        have hbxl := HBX.out.lt
        have hB0 : Below wr.heap.size wr (wr.alloc (.cells #[.slice (some ⟨g9, 0, none⟩) q c9] 41)) := (Below.refl _ wr).alloc (Nat.le_refl _) _
        have hSl : ∀ b, (b < wr.heap.size + 1 ∧ b ≠ w.heap.size ∧ some b ≠ outv.ownBlock) → b < (wr.alloc (.cells #[.slice (some ⟨g9, 0, none⟩) q c9] 41)).heap.size := fun b hb => by simp; omega
        refine wpIn_wide.1 (wpIn_rangeFunc_ownG (F := Fence.wide) (n := 3) rfl (by omega) (gf := 32) (lb := #[.pointer (some ⟨wr.heap.size, 0, none⟩)]) rfl trivial (enters_of Try.func32 (by kernel_rfl) rfl)
          (backward26_stops Fence.wide 2 trivial rfl (by omega) (fun b => b < wr.heap.size + 1 ∧ b ≠ w.heap.size ∧ some b ≠ outv.ownBlock) wr.heap.size q c9 (some ⟨g9, 0, none⟩) vs (by omega) _ hSl (Boxed.new wr 41 _) ⟨by omega, by omega, fun e => by have := Kd.R_lt HOO.out _ e.symm; omega⟩
            (fun j hj => ⟨_, rfl, ⟨by simp; omega, by simp; omega, fun e => by have := HOPP.out.1 g9 rfl; exact this e⟩, (hB0.cell (p := (⟨g9, 0, none⟩ : Addr).add j) (by rw [Addr.add_block]; exact hg9l)).trans (by rw [add_plain]; exact (HVS.out j hj).1)⟩))
          keepS_t (keepS_b hSl) (Below.refl _ _) (fun _ => rfl)
          (fun pre W => (∃ v, Boxed W w.heap.size 23 v ∧ (Kd.int .i64).R 3 W (w.heap.size + 1) (fun b => ¬ (b < wr.heap.size + 1 ∧ b ≠ w.heap.size ∧ some b ≠ outv.ownBlock)) v (full.flatten ++ (pre.map fun j => negRev (full[j.1]'(by have := HDL.out; have := j.2; omega))).flatten)) ∧ KeepS (fun b => b < wr.heap.size + 1 ∧ b ≠ w.heap.size ∧ some b ≠ outv.ownBlock) (wr.alloc (.cells #[.slice (some ⟨g9, 0, none⟩) q c9] 41)) W ∧ Below w.heap.size w W)
          (fun _ _ _ => False)
          (OwnFrom.and (Own.from (fun s X Y row hs hg hr => by obtain ⟨v, h1, h2⟩ := hs; exact ⟨v, h1.kept hg (fun e' => by obtain ⟨o, ho, hc⟩ := hr _ e'.symm; rw [show X.heap[w.heap.size]? = _ from h1] at ho; cases ho; cases hc), R_kept h2 hg hr⟩) _) (OwnFrom.and (ownFrom_keepS hSl (fun b hb => hSl b hb)) (ownFrom_below (Nat.le_refl _) (by have := HB.out.size; simp; omega))))
          (fun _ _ _ _ _ hs _ _ => hs)
          ?start (fun x => { tmps := #[Value.int IntKind.i64 (a + offAt m (↑q + 1) (↑q + 1)), Value.int IntKind.i64 m, Value.pointer (some ⟨Bk, 0, none⟩), Value.pointer (some ⟨Bs, 0, none⟩), undef, undef, Value.slice none 0 0, Value.int IntKind.i64 (↑q + 1), Value.pointer (some ⟨w.heap.size, 0, none⟩), Value.slice (some ⟨g9, 0, none⟩) (q + 1) c9, u10, u11, u12, undef, vs x.1, Value.int IntKind.i64 m, Value.bool false, undef, undef, undef, Value.int IntKind.i64 k, Value.int IntKind.i64 m, Value.int IntKind.i64 (↑q + 1), Value.int IntKind.i64 (↑q + 1), Value.int IntKind.i64 (↑q + 1), Value.bool false, u26, u27, u28, u29, u30, u31, u32, u33, u34, u35, u36, u37, u38, u39, u40, u41, u42, u43, u44, u45, u46, u47, u48, u49, u50, u51, Value.slice (some ⟨g9, 0, none⟩) (q + 1) c9, Value.int IntKind.i64 (↑q + 1), Value.int IntKind.i64 ↑q, Value.slice (some ⟨g9, 0, none⟩) q c9, Value.func (Fn.func 32) #[] #[Value.pointer (some ⟨wr.heap.size, 0, none⟩)], Value.int IntKind.i64 (x.1 : Int), vs x.1, undef, undef, undef, undef, undef], defers := [] }) ?assign ?body ?done ?stop)
        case start =>
          refine ⟨⟨outv, HBX.out.alloc _, ?_⟩, KeepS.refl _ _, HB.out.alloc HB.out.size _⟩
          have h1 := Kd.R_alloc HOO.out (.cells #[.slice (some ⟨g9, 0, none⟩) q c9] 41)
          rw [List.map_nil, List.flatten_nil, List.append_nil]
          exact Kd.R_of_own (Kd.own_of_R h1) (fun k hk h => h.2.2 hk.symm)
        case assign =>
          intro l x W K hK
          gi_wp2
          exact hK
        case body =>
          rintro l pre x W ⟨⟨v, hv, hR⟩, hK, hB⟩ hlen'
          obtain ⟨hcx, hRx⟩ := HVS.out x.1 x.2
          obtain ⟨Ax, cx, hux⟩ := Kd.R_slice hRx
          have hvc := hv.cell
          rw [hux]
          obtain ⟨px, hpx⟩ : ∃ px, px = full[x.1]'(by have := HDL.out; have := x.2; omega) := ⟨_, rfl⟩
          rw [← hpx] at hux hRx ⊢
          have HUX := Lib.hid hux
          have HPX := Lib.hid hpx
          have HRX := Lib.hid hRx
          clear hux hpx hRx
          have hffl : full.flatten.length ≤ 8589934592 := by rw [List.length_append] at hlen; omega
          have hpl2 : px.length ≤ 8589934592 := by
            have := le_flatten (l := full) (j := x.1) (by have := HDL.out; have := x.2; omega)
            rw [← HPX.out] at this
            omega
          have hpl : px.length ≤ 1099511627776 := by omega
          have hCx : (Kd.int .i64).C W Ax px.length px := by
            have h1 := HUX.out ▸ HRX.out
            have h2 := (Kd.R_reads' h1).2.2
            have h3 : (Kd.int .i64).C (wr.alloc (.cells #[.slice (some ⟨g9, 0, none⟩) q c9] 41)) Ax px.length px := Kd.C_alloc h2 _
            refine C_keepS h3 (fun hn ad e => ?_) hK
            have hb : ad.block < wr.heap.size := Kd.R_lt h1 ad.block (by rw [e]; rfl)
            have ho : some ad.block ≠ outv.ownBlock := h1.1 ad.block (by rw [e]; rfl)
            have hba : w.heap.size + 1 ≤ ad.block := Kd.R_base h1 ad.block (by rw [e]; rfl)
            exact ⟨by omega, by omega, ho⟩
          have HCX := Lib.hid hCx
          clear hCx
          have hmix : Try.prog.follows .mixedOrders = true := by kernel_rfl
          have hpf : PAll.pebble_Inverse.f px = some (negRev px) := by unfold PAll.pebble_Inverse.f; rw [if_pos hpl]
          have HPF := Lib.hid hpf
          clear hpf
          have hcxl : px.length ≤ cx := (Kd.R_reads' (HUX.out ▸ HRX.out)).2.1
          have hbz := hB.size
          have hsvc : Boxed W.drew w.heap.size 23 v := hv
          gi_wp2
          refine region_inRound hmix (by kernel_rfl) (by rintro ⟨_, _, h⟩; exact h) ?_
          refine wpAny_take (i := 1) (v := ?_) rfl (by kernel_rfl) (by kernel_rfl) (by kernel_rfl) (fun _ _ _ h => h) (Or.inl ⟨by rfl, ?_⟩) ?_
          case refine_2 => intro w'; go_simp; rfl
          obtain ⟨acc, hacc⟩ : ∃ acc, acc = full.flatten ++ (pre.map fun j => negRev (full[j.1]'(by have := HDL.out; have := j.2; omega))).flatten := ⟨_, rfl⟩
          rw [← hacc] at hR
          have HAC := Lib.hid hacc
          have HRA := Lib.hid hR
          have haccl : acc.length + (negRev px).length ≤ 10995116277760 := by
            rw [hacc, negRev_length, List.length_append]
            have h1 := flatten_map_le (M := 8589934592) (g := fun j : Fin q => negRev (full[j.1]'(by have := HDL.out; have := j.2; omega))) pre (fun j _ => by
              rw [negRev_length]
              have := le_flatten (l := full) (j := j.1) (by have := HDL.out; have := j.2; omega)
              omega)
            have h2 : pre.length * 8589934592 ≤ 500 * 8589934592 := Nat.mul_le_mul_right _ (by omega)
            omega
          have hKl := hK.1
          rw [World.size_alloc] at hKl
          clear hacc hR
          refine wpAny_ready (rs := [0, 2]) (by kernel_rfl) (by simp) (AllReady.cons rfl (fun K hK => ?load) (AllReady.cons rfl (fun K hK => ?call) AllReady.nil))
          case load =>
            go_simp
            refine hK _ _ ?_
            clear hK K
            refine wpAny_ready (rs := [2]) (by kernel_rfl) (by simp) (AllReady.cons rfl (fun K hK => ?_) AllReady.nil)
            go_simp
            refine (PAll.pebble_Inverse.calls Ax cx px (negRev px) W.drew (Kd.C_drew HCX.out) hcxl HPF.out).mono ?_
            rintro e w1 ⟨v1, rfl, hv1, hb1⟩
            refine hK _ _ ?_
            clear hK K
            obtain ⟨A1, c1, rfl⟩ := Kd.R_slice hv1
            have hv1r := (Kd.R_reads' hv1).2.2
            have hbx1 : Boxed w1 w.heap.size 23 v := box_below hsvc hb1
            have hR1 : (Kd.int .i64).R 3 w1 (w.heap.size + 1) (fun b => ¬ (b < wr.heap.size + 1 ∧ b ≠ w.heap.size ∧ some b ≠ outv.ownBlock)) v acc := Kd.R_below (Kd.R_drew HRA.out) hb1
            have hz1 : W.heap.size ≤ w1.heap.size := hb1.size
            refine wpAny_ready (rs := [3]) (by kernel_rfl) (by simp) (AllReady.cons rfl (fun K hK => ?_) AllReady.nil)
            refine Kd.R_append_rows_step (Kd.int .i64) (w0 := w1) (w.heap.size + 1) (by rfl) (.tmp 59) (.tmp 61) 23 3 (.int .i64 0) 8 rfl Try.underlying23 infoI3 rfl (by decide) (by omega) v acc (negRev px) A1 (negRev px).length c1 (fun b => ¬ (b < wr.heap.size + 1 ∧ b ≠ w.heap.size ∧ some b ≠ outv.ownBlock)) (fun _ => False) rfl rfl hR1 hv1r (fun _ _ h => h) (fun _ h => h.elim) (fun b hb h => by omega) (Below.refl _ _) (by omega) (by omega) ?_
            intro v2 w2 ho hb2 hg hat
            refine hK _ _ ?_
            clear hK K
            obtain ⟨A2, c2, rfl⟩ := Kd.R_slice ho
            have hbx2 : Boxed w2 w.heap.size 23 v := hbx1.kept hg (box_ne hR1 (by omega))
            have hc2 := hbx2.cell
            have hf2 := hbx2.frozen
            refine wpAny_ready (rs := [4]) (by kernel_rfl) (by simp) (AllReady.cons rfl (fun K hK => ?_) AllReady.nil)
            go_simp
            refine hK _ _ ?_
            clear hK K
            refine wpAny_done (by kernel_rfl) ?_ _
            have hS1 : ∀ b, (b < wr.heap.size + 1 ∧ b ≠ w.heap.size ∧ some b ≠ outv.ownBlock) → b < W.heap.size := fun b hb => by omega
            have hdW : KeepS (fun b => b < wr.heap.size + 1 ∧ b ≠ w.heap.size ∧ some b ≠ outv.ownBlock) W w1 := ⟨hb1.size, fun b hb => hb1.block b (hS1 b hb)⟩
            have hKt := (hdW.trans (KeepS.of_grownBy hg (fun b hb => by have := hS1 b hb; omega) (fun b hb e => hR1.1 b e.symm hb))).trans (keepS_set (B := w.heap.size) (fun h => h.2.1 rfl) (.slice A2 (acc.length + (negRev px).length) c2))
            have hBt : Below w.heap.size w (w2.setCell ⟨w.heap.size, 0, none⟩ (.slice A2 (acc.length + (negRev px).length) c2)) := (((hB.drew).trans (hb1.mono hbz)).trans (below_grown hR1 (by omega) (by omega) hg)).setCell (p := ⟨w.heap.size, 0, none⟩) (Nat.le_refl _) _
            have hKf := ((keepsFrom_below (B := (wr.alloc (.cells #[.slice (some ⟨g9, 0, none⟩) q c9] 41)).heap.size) hb1).trans (keepsFrom_grown hR1 hg)).trans ((KeepsOthers.setCell w2 ⟨w.heap.size, 0, none⟩ (.slice A2 (acc.length + (negRev px).length) c2)).from _)
            refine ⟨⟨hKf.size, hKf.same⟩, hKt, ⟨_, hbx2.set _, ?_⟩, hK.trans hKt, hBt⟩
            have h5 := R_setBox ho (B := w.heap.size) (by omega) (.slice A2 (acc.length + (negRev px).length) c2)
            rw [List.length_append] at h5
            have h6 : acc ++ negRev px = full.flatten ++ ((pre ++ [x]).map fun j => negRev (full[j.1]'(by have := HDL.out; have := j.2; omega))).flatten := by rw [HAC.out, HPX.out]; simp
            rw [← h6]
            exact h5
          case call =>
            go_simp
            refine (PAll.pebble_Inverse.calls Ax cx px (negRev px) W.drew (Kd.C_drew HCX.out) hcxl HPF.out).mono ?_
            rintro e w1 ⟨v1, rfl, hv1, hb1⟩
            refine hK _ _ ?_
            clear hK K
            obtain ⟨A1, c1, rfl⟩ := Kd.R_slice hv1
            have hv1r := (Kd.R_reads' hv1).2.2
            have hbx1 : Boxed w1 w.heap.size 23 v := box_below hsvc hb1
            have hR1 : (Kd.int .i64).R 3 w1 (w.heap.size + 1) (fun b => ¬ (b < wr.heap.size + 1 ∧ b ≠ w.heap.size ∧ some b ≠ outv.ownBlock)) v acc := Kd.R_below (Kd.R_drew HRA.out) hb1
            have hz1 : W.heap.size ≤ w1.heap.size := hb1.size
            have hc1 := hbx1.cell
            refine wpAny_ready (rs := [0]) (by kernel_rfl) (by simp) (AllReady.cons rfl (fun K hK => ?_) AllReady.nil)
            go_simp
            refine hK _ _ ?_
            clear hK K
            refine wpAny_ready (rs := [3]) (by kernel_rfl) (by simp) (AllReady.cons rfl (fun K hK => ?_) AllReady.nil)
            refine Kd.R_append_rows_step (Kd.int .i64) (w0 := w1) (w.heap.size + 1) (by rfl) (.tmp 59) (.tmp 61) 23 3 (.int .i64 0) 8 rfl Try.underlying23 infoI3 rfl (by decide) (by omega) v acc (negRev px) A1 (negRev px).length c1 (fun b => ¬ (b < wr.heap.size + 1 ∧ b ≠ w.heap.size ∧ some b ≠ outv.ownBlock)) (fun _ => False) rfl rfl hR1 hv1r (fun _ _ h => h) (fun _ h => h.elim) (fun b hb h => by omega) (Below.refl _ _) (by omega) (by omega) ?_
            intro v2 w2 ho hb2 hg hat
            refine hK _ _ ?_
            clear hK K
            obtain ⟨A2, c2, rfl⟩ := Kd.R_slice ho
            have hbx2 : Boxed w2 w.heap.size 23 v := hbx1.kept hg (box_ne hR1 (by omega))
            have hc2 := hbx2.cell
            have hf2 := hbx2.frozen
            refine wpAny_ready (rs := [4]) (by kernel_rfl) (by simp) (AllReady.cons rfl (fun K hK => ?_) AllReady.nil)
            go_simp
            refine hK _ _ ?_
            clear hK K
            refine wpAny_done (by kernel_rfl) ?_ _
            have hS1 : ∀ b, (b < wr.heap.size + 1 ∧ b ≠ w.heap.size ∧ some b ≠ outv.ownBlock) → b < W.heap.size := fun b hb => by omega
            have hdW : KeepS (fun b => b < wr.heap.size + 1 ∧ b ≠ w.heap.size ∧ some b ≠ outv.ownBlock) W w1 := ⟨hb1.size, fun b hb => hb1.block b (hS1 b hb)⟩
            have hKt := (hdW.trans (KeepS.of_grownBy hg (fun b hb => by have := hS1 b hb; omega) (fun b hb e => hR1.1 b e.symm hb))).trans (keepS_set (B := w.heap.size) (fun h => h.2.1 rfl) (.slice A2 (acc.length + (negRev px).length) c2))
            have hBt : Below w.heap.size w (w2.setCell ⟨w.heap.size, 0, none⟩ (.slice A2 (acc.length + (negRev px).length) c2)) := (((hB.drew).trans (hb1.mono hbz)).trans (below_grown hR1 (by omega) (by omega) hg)).setCell (p := ⟨w.heap.size, 0, none⟩) (Nat.le_refl _) _
            have hKf := ((keepsFrom_below (B := (wr.alloc (.cells #[.slice (some ⟨g9, 0, none⟩) q c9] 41)).heap.size) hb1).trans (keepsFrom_grown hR1 hg)).trans ((KeepsOthers.setCell w2 ⟨w.heap.size, 0, none⟩ (.slice A2 (acc.length + (negRev px).length) c2)).from _)
            refine ⟨⟨hKf.size, hKf.same⟩, hKt, ⟨_, hbx2.set _, ?_⟩, hK.trans hKt, hBt⟩
            have h5 := R_setBox ho (B := w.heap.size) (by omega) (.slice A2 (acc.length + (negRev px).length) c2)
            rw [List.length_append] at h5
            have h6 : acc ++ negRev px = full.flatten ++ ((pre ++ [x]).map fun j => negRev (full[j.1]'(by have := HDL.out; have := j.2; omega))).flatten := by rw [HAC.out, HPX.out]; simp
            rw [← h6]
            exact h5
        case done =>
          rintro D ys W hD rfl ⟨⟨v, hv, hR⟩, hK, hB⟩ hKd
          have hvc := hv.cell
          have hdw := undo_all full q HDL.out
          rw [← hdw] at hR
          obtain ⟨tot, htot⟩ : ∃ tot, tot = full.flatten ++ (full.dropLast.reverse.map negRev).flatten := ⟨_, rfl⟩
          rw [← htot] at hR
          have HT := Lib.hid htot
          clear hdw htot
          obtain ⟨Av, cv, rfl⟩ := Kd.R_slice hR
          go_wp2
          refine ⟨by simp, .inl ⟨_, _, rfl, run_takeDeferred hKd, ?_⟩⟩
          refine ⟨_, results_tmp rfl _ _ _, _, rfl, ?_, hB.trans (belowK_b (w := w) (Nat.le_refl _) W D _ _ (by have := HB.out.size; simp at hD; omega) hKd rfl rfl)⟩
          rw [← HT.out]
          exact Kd.R_mono (Kd.R_lower (R_put hR _ hKd rfl) (by omega)) (fun _ _ => trivial)
        case stop =>
          rintro D c pre W _ _ h _
          exact h.elim

theorem strat_all (k : Int) (hk2 : 2 ≤ k) (hk5 : k ≤ 500) : ∀ f, StratAt k f
  | 0 => fun a m w Bk Bs h1 h2 => by omega
  | f + 1 => strat_step k hk2 hk5 f (strat_all k hk2 hk5 f)

end Go.Proofs.Ytpkamififbhheaa
