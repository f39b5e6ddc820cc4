/- backsteplaw10.StateDecodes: Decode is the reference's, and what it accepts is the encoding of what it returns. -/
import Derived.Test.YtjphfhmkpknfaaaSlimD
import Derived.Test.YtjphfhmkpknfaaaPAllx10
import Derived.Test.YtjphfhmkpknfaaaOpenSt
import Derived.Deep.CutRange
set_option linter.unusedVariables false
set_option linter.unusedSimpArgs false
namespace Go.Proofs.Ytjphfhmkpknfaaa.PAll
open Go.RowKit Go.Proofs.YtjphfhmkpknfaaaW.PrintWords Go.Proofs.YtjphfhmkpknfaaaW.PrintLast Go.Proofs.YtjphfhmkpknfaaaW.PrintMore
attribute [local go_sem] max2_int min2_int max_two min_two max_three min_three max_four min_four

theorem V_ofC {w : World} {A : Option Addr} {c : Nat} {l : List Int} (h : Kd.C (Kd.int .u8) w A l.length l) (hc : l.length ≤ c) : Kd.V (Kd.int .u8) 5 w w.heap.size (fun k => k < w.heap.size) (.slice A l.length c) l :=
  ⟨A, c, rfl, hc, Kd.C_F (Kd.heap_int .u8) h⟩
set_option maxRecDepth 100000 in
set_option maxHeartbeats 8000000 in
theorem StateDecodes_calls (A0 : Option Addr) (c0 : Nat) (l0 : List S44) (A1 : Option Addr) (c1 : Nat) (l1 : List Int) (w : World)
    (hr0 : Kd.C k44 w A0 l0.length l0) (hc0 : l0.length ≤ c0) (hr1 : Kd.C (Kd.int .u8) w A1 l1.length l1) (hc1 : l1.length ≤ c1) (hb : areB l1) :
    Calls Try.prog 9 #[.slice A0 l0.length c0, .slice A1 l1.length c1] w fun e w' => e = .returned (.bool true) ∧ Below w.heap.size w w' := by
  have HR0 := Lib.hid hr0
  have HR1 := Lib.hid hr1
  have HBY := Lib.hid hb
  clear hr0 hr1 hb
  go_enter Try.func9, Try.ntmps9
  go_wp2_with (fail)
  refine (backsteplaw10_awake.calls 300 true _ PureD.awake_ok).mono ?_
  rintro e w1 ⟨rfl, hb1⟩
  have HB := Lib.hid hb1
  clear hb1
  by_cases h6 : (l0.length : Int) > 6
  · have h6b : decide ((6 : Int) < (l0.length : Int)) = true := decide_eq_true h6
    have h6n : 6 < l0.length := by omega
    have h6d : decide (6 < l0.length) = true := decide_eq_true h6n
    go_wp2
    go_ret
    exact ⟨rfl, HB.out⟩
  · have h6b : decide ((6 : Int) < (l0.length : Int)) = false := decide_eq_false h6
    have h6n : ¬ 6 < l0.length := by omega
    have h6d : decide (6 < l0.length) = false := decide_eq_false h6n
    by_cases h600 : (l1.length : Int) > 600
    · have h7b : decide ((600 : Int) < (l1.length : Int)) = true := decide_eq_true h600
      have h7n : 600 < l1.length := by omega
      have h7d : decide (600 < l1.length) = true := decide_eq_true h7n
      go_wp2
      go_ret
      exact ⟨rfl, HB.out⟩
    · have h7b : decide ((600 : Int) < (l1.length : Int)) = false := decide_eq_false h600
      have h7n : ¬ 600 < l1.length := by omega
      have h7d : decide (600 < l1.length) = false := decide_eq_false h7n
      obtain ⟨cs, is, os, ee, hdec, hcase⟩ := PureD.dec_cases l0 HBY.out
      have HDEC := Lib.hid hdec
      have hlen : cs.length ≤ 1000 ∧ (∀ x ∈ cs, x.length ≤ 1000) ∧ is.length ≤ 1000 ∧ os.length ≤ 1000 := by
        rcases hcase with ⟨_, rfl, rfl, rfl⟩ | ⟨_, hf, hbe⟩
        · simp
        · have h1 := PureD.fits_len hf
          have h2 := PureD.encB_rows h1 (by rw [← hbe]; omega)
          exact ⟨by omega, fun x hx => by have := h2.1 x hx; omega, by omega, by omega⟩
      obtain ⟨hl1, hl2, hl3, hl4⟩ := hlen
      have HL2 := Lib.hid hl2
      have HCASE := Lib.hid hcase
      clear hdec hcase hl2 h6 h600
      go_wp2_with (fail)
      refine (state_Decode.calls (2 * l0.length + 1) A0 c0 l0 A1 c1 l1 cs is os ee w1 (Kd.C_below HR0.out HB.out) hc0 (Kd.C_below HR1.out HB.out) hc1 (PureD.decode_f (by omega) HBY.out (by omega) HDEC.out)).mono ?_
      rintro e w5 ⟨v1, v2, v3, rfl, hv1, hv2, hv3, hb5⟩
      obtain ⟨D1, d1, hve1, hd1, hD1⟩ := Kd.R_reads (Kd.S_R hv1)
      obtain ⟨D2, d2, hve2, hd2, hD2⟩ := Kd.R_reads hv2
      obtain ⟨D3, d3, hve3, hd3, hD3⟩ := Kd.R_reads hv3
      subst hve1 hve2 hve3
      clear hv1 hv2 hv3
      go_upto_region 6 with (fail)
      obtain ⟨w6, hw6⟩ : ∃ w6, w6 = w5.alloc (.cells #[.slice D1 cs.length d1, .slice D2 is.length d2, .slice D3 os.length d3] 25) := ⟨_, rfl⟩
      rw [← hw6]
      have hb6 : Below w5.heap.size w5 w6 := by rw [hw6]; exact below_alloc (Below.refl _ _) _
      have hbd : BoxA w6 w5.heap.size (.slice D1 cs.length d1) (.slice D2 is.length d2) (.slice D3 os.length d3) := by rw [hw6]; exact BoxA.new w5 _ _ _
      have hbw := (HB.out.trans (hb5.mono HB.out.size)).trans (hb6.mono (by have := HB.out.size; have := hb5.size; omega))
      have hD1 := Kd.C_below hD1 hb6
      have hD2 := Kd.C_below hD2 hb6
      have hD3 := Kd.C_below hD3 hb6
      obtain ⟨y, hy⟩ : ∃ y, y = w5.heap.size := ⟨_, rfl⟩
      rw [← hy] at hbd ⊢
      clear HB hw6 hb6 hb5 hy
      have HD := Lib.hid hbd
      have HB := Lib.hid hbw
      have HD1 := Lib.hid hD1
      have HD2 := Lib.hid hD2
      have HD3 := Lib.hid hD3
      clear hbd hbw hD1 hD2 hD3
      go_wp2_with (fail)
      refine (backstepref10_Decode.calls (l0.length + 60010) A0 c0 l0 (fun k => k < w6.heap.size) A1 c1 l1 cs is os ee w6 (Kd.C_below HR0.out HB.out) hc0 (V_ofC (Kd.C_below HR1.out HB.out) hc1) ((PureD.refdec_f l0 (by omega) l1 HBY.out (by omega)).trans (by rw [HDEC.out]))).mono ?_
      rintro e w7 ⟨v1, v2, v3, rfl, hv1, hv2, hv3, hb7⟩
      obtain ⟨F1, f1, hve1, hf1, hF1⟩ := Kd.R_reads (Kd.S_R hv1)
      obtain ⟨F2, f2, hve2, hf2, hF2⟩ := Kd.R_reads hv2
      obtain ⟨F3, f3, hve3, hf3, hF3⟩ := Kd.R_reads hv3
      subst hve1 hve2 hve3
      clear hv1 hv2 hv3
      go_upto_region 7 with (fail)
      obtain ⟨w8, hw8⟩ : ∃ w8, w8 = w7.alloc (.cells #[.slice F1 cs.length f1, .slice F2 is.length f2, .slice F3 os.length f3] 25) := ⟨_, rfl⟩
      rw [← hw8]
      have hb8 : Below w7.heap.size w7 w8 := by rw [hw8]; exact below_alloc (Below.refl _ _) _
      have hbf : BoxA w8 w7.heap.size (.slice F1 cs.length f1) (.slice F2 is.length f2) (.slice F3 os.length f3) := by rw [hw8]; exact BoxA.new w7 _ _ _
      have hb68 : Below w6.heap.size w6 w8 := hb7.trans (hb8.mono hb7.size)
      have hbd := HD.out.below hb68 HD.out.lt
      have hbw := HB.out.trans (hb68.mono HB.out.size)
      have hD1 := Kd.C_below HD1.out hb68
      have hD2 := Kd.C_below HD2.out hb68
      have hD3 := Kd.C_below HD3.out hb68
      have hF1 := Kd.C_below hF1 hb8
      have hF2 := Kd.C_below hF2 hb8
      have hF3 := Kd.C_below hF3 hb8
      obtain ⟨z, hz⟩ : ∃ z, z = w7.heap.size := ⟨_, rfl⟩
      rw [← hz] at hbf ⊢
      clear HD HB HD1 HD2 HD3 hw8 hb8 hb7 hb68 hz
      have hdc0 := hbd.c0
      have hdc1 := hbd.c1
      have hdc2 := hbd.c2
      have hfc0 := hbf.c0
      have hfc1 := hbf.c1
      have hfc2 := hbf.c2
      have HD := Lib.hid hbd
      have HB := Lib.hid hbw
      have HD1 := Lib.hid hD1
      have HD2 := Lib.hid hD2
      have HD3 := Lib.hid hD3
      have HF1 := Lib.hid hF1
      have HF2 := Lib.hid hF2
      have HF3 := Lib.hid hF3
      clear hbd hbf hbw hD1 hD2 hD3 hF1 hF2 hF3
      go_wp2_with (fail)
      refine (backstepref10_Equal.calls 2100 D1 d1 cs D2 d2 is D3 d3 os F1 f1 cs F2 f2 is F3 f3 os true w8 HD1.out hd1 HD2.out hd2 HD3.out hd3 HF1.out hf1 HF2.out hf2 HF3.out hf3 ((PureD.refequal_f cs is os cs is os hl1 HL2.out hl3 hl4).trans (by simp [PureD.sameP]))).mono ?_
      rintro e w9 ⟨rfl, hb9⟩
      have hbd := HD.out.below hb9 HD.out.lt
      have hbw := HB.out.trans (hb9.mono HB.out.size)
      have hD1 := Kd.C_below HD1.out hb9
      have hD2 := Kd.C_below HD2.out hb9
      have hD3 := Kd.C_below HD3.out hb9
      clear HD HB HD1 HD2 HD3 HF1 HF2 HF3 hdc0 hdc1 hdc2 hfc0 hfc1 hfc2 hb9
      have hdc0 := hbd.c0
      have hdc1 := hbd.c1
      have hdc2 := hbd.c2
      have HD := Lib.hid hbd
      have HB := Lib.hid hbw
      have HD1 := Lib.hid hD1
      have HD2 := Lib.hid hD2
      have HD3 := Lib.hid hD3
      clear hbd hbw hD1 hD2 hD3
      by_cases he : ee = 0
      · have heb : (ee == 0) = true := by simpa using he
        have he1 : (ee != 0) = false := by simpa using he
        have hfb : PureD.fitsP l0 cs is os = true ∧ l1 = PureD.encB l0 cs is os := by
          rcases HCASE.out with h | h
          · exact absurd he h.1
          · exact h.2
        have HFB := Lib.hid hfb
        clear he hfb HCASE
        go_wp2_with (fail)
        refine (state_Encode.calls 8000 A0 c0 l0 D1 d1 cs D2 d2 is D3 d3 os l1 0 w9 (Kd.C_below HR0.out HB.out) hc0 HD1.out hd1 HD2.out hd2 HD3.out hd3 ((PureD.encode_f l0 cs is os (by omega) (fun x hx => by have := HL2.out x hx; omega) (by omega) (by omega)).trans (by rw [if_pos HFB.out.1, ← HFB.out.2]))).mono ?_
        rintro e w10 ⟨v0, rfl, hv0, hb10⟩
        have hbd := HD.out.below hb10 HD.out.lt
        have hbw := HB.out.trans (hb10.mono HB.out.size)
        have hD1 := Kd.C_below HD1.out hb10
        have hD2 := Kd.C_below HD2.out hb10
        have hD3 := Kd.C_below HD3.out hb10
        clear HD HB HD1 HD2 HD3 hdc0 hdc1 hdc2 hb10
        have hdc0 := hbd.c0
        have hdc1 := hbd.c1
        have hdc2 := hbd.c2
        obtain ⟨E0, ec, hve, hel, hE⟩ := Kd.R_reads hv0
        subst hve
        have hcv := Kd.C_string (P := Try.prog) (src := 47) (dst := 9) (c := ec) Try.underlying47 Try.underlying5 Try.underlying9 hE
        have hcv2 := Kd.C_string (P := Try.prog) (src := 47) (dst := 9) (c := c1) Try.underlying47 Try.underlying5 Try.underlying9 (Kd.C_below HR1.out hbw)
        have HD := Lib.hid hbd
        have HB := Lib.hid hbw
        have HD1 := Lib.hid hD1
        have HD2 := Lib.hid hD2
        have HD3 := Lib.hid hD3
        clear hbd hbw hD1 hD2 hD3 hv0 hE
        go_wp2_with (fail)
        refine (state_Fits.calls (2 * l0.length + 2) A0 c0 l0 D1 d1 cs D2 d2 is D3 d3 os true w10 (Kd.C_below HR0.out HB.out) hc0 HD1.out hd1 HD2.out hd2 HD3.out hd3 ((PureD.fits_f l0 cs is os (by omega)).trans (by rw [HFB.out.1]))).mono ?_
        rintro e w11 ⟨rfl, hb11⟩
        have hbw := HB.out.trans (hb11.mono HB.out.size)
        clear HD HB HD1 HD2 HD3 hdc0 hdc1 hdc2 hb11 hcv hcv2
        have HB := Lib.hid hbw
        clear hbw
        go_wp2
        go_ret
        exact ⟨rfl, HB.out⟩
      · have heb : (ee == 0) = false := by simpa using he
        have he1 : (ee != 0) = true := by simpa using he
        clear he HCASE
        go_wp2
        go_ret
        exact ⟨rfl, HB.out⟩
end Go.Proofs.Ytjphfhmkpknfaaa.PAll
