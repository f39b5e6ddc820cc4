/- backsteplaw10.StateEncodes: Encode's bytes are the reference's, and Decode gives the state again. -/
import Derived.Test.YtjphfhmkpknfaaaSlimE
import Derived.Test.YtjphfhmkpknfaaaPAllx10
import Derived.Test.YtjphfhmkpknfaaaPAllx11
import Derived.Test.YtjphfhmkpknfaaaPAllx13
import Derived.Test.YtjphfhmkpknfaaaOpenSt
import Derived.Deep.CutRange
set_option linter.unusedVariables false
set_option linter.unusedSimpArgs false
namespace Go.Proofs.Ytjphfhmkpknfaaa.PAll
open Go.RowKit Go.Proofs.YtjphfhmkpknfaaaW.PrintWords Go.Proofs.YtjphfhmkpknfaaaW.PrintLast Go.Proofs.YtjphfhmkpknfaaaW.PrintMore
attribute [local go_sem] max2_int min2_int max_two min_two max_three min_three max_four min_four

set_option maxRecDepth 100000 in
set_option maxHeartbeats 8000000 in
theorem StateEncodes_calls (A0 : Option Addr) (c0 : Nat) (l0 : List S44) (A1 : Option Addr) (c1 : Nat) (l1 : List (List Int)) (A2 : Option Addr) (c2 : Nat) (l2 : List Int) (A3 : Option Addr) (c3 : Nat) (l3 : List Int) (w : World)
    (hr0 : Kd.C k44 w A0 l0.length l0) (hc0 : l0.length ≤ c0) (hr1 : Kd.C (Kd.slice 3 (Kd.int .i64)) w A1 l1.length l1) (hc1 : l1.length ≤ c1) (hr2 : Kd.C (Kd.int .i64) w A2 l2.length l2) (hc2 : l2.length ≤ c2) (hr3 : Kd.C (Kd.int .i64) w A3 l3.length l3) (hc3 : l3.length ≤ c3)
    (g1 : ∀ x ∈ l1, goodInts x) (g2 : goodInts l2) (g3 : goodInts l3) :
    Calls Try.prog 8 #[.slice A0 l0.length c0, .agg #[.slice A1 l1.length c1, .slice A2 l2.length c2, .slice A3 l3.length c3]] w fun e w' => e = .returned (.bool true) ∧ Below w.heap.size w w' := by
  obtain ⟨K1, hK1⟩ := PureE.small_f l1 l2 l3
  have G1 := Lib.hid (show ∀ c ∈ l1, ∀ x ∈ c, PureE.in64 x from fun c hc x hx => PureE.wf64.1 (g1 c hc x hx))
  have G2 := Lib.hid (show ∀ x ∈ l2, PureE.in64 x from fun x hx => PureE.wf64.1 (g2 x hx))
  have G3 := Lib.hid (show ∀ x ∈ l3, PureE.in64 x from fun x hx => PureE.wf64.1 (g3 x hx))
  have HR0 := Lib.hid hr0
  have HR1 := Lib.hid hr1
  have HR2 := Lib.hid hr2
  have HR3 := Lib.hid hr3
  have HK1 := Lib.hid hK1
  clear hr0 hr1 hr2 hr3 hK1 g1 g2 g3
  go_enter Try.func8, Try.ntmps8
  go_wp2_with (fail)
  refine (backsteplaw10_awake.calls 300 true _ PureE.awake_ok).mono ?_
  rintro e w1 ⟨rfl, hb1⟩
  have hba : BoxA w1 w.heap.size (.slice A1 l1.length c1) (.slice A2 l2.length c2) (.slice A3 l3.length c3) := (BoxA.new w _ _ _).below hb1 (by simp)
  have hbw : Below w.heap.size w w1 := (below_alloc (Below.refl _ _) _).trans (hb1.mono (by simp))
  have hac0 := hba.c0
  have hac1 := hba.c1
  have hac2 := hba.c2
  have HA := Lib.hid hba
  have HB := Lib.hid hbw
  clear hb1 hba hbw
  by_cases h40 : (l0.length : Int) > 40
  · have h40b : decide ((40 : Int) < (l0.length : Int)) = true := decide_eq_true h40
    have h40n : 40 < l0.length := by omega
    have h40d : decide (40 < l0.length) = true := decide_eq_true h40n
    go_wp2
    go_ret
    exact ⟨rfl, HB.out⟩
  · have h40b : decide ((40 : Int) < (l0.length : Int)) = false := decide_eq_false h40
    have h40n : ¬ 40 < l0.length := by omega
    have h40d : decide (40 < l0.length) = false := decide_eq_false h40n
    go_wp2_with (fail)
    refine (backsteplaw10_small.calls K1 A1 c1 l1 A2 c2 l2 A3 c3 l3 _ w1 (Kd.C_below HR1.out HB.out) hc1 (Kd.C_below HR2.out HB.out) hc2 (Kd.C_below HR3.out HB.out) hc3 HK1.out).mono ?_
    rintro e w2 ⟨rfl, hb2⟩
    have hba := HA.out.below hb2 HA.out.lt
    have hbw := HB.out.trans (hb2.mono HB.out.size)
    clear hac0 hac1 hac2 HA HB hb2
    have hac0 := hba.c0
    have hac1 := hba.c1
    have hac2 := hba.c2
    have HA := Lib.hid hba
    have HB := Lib.hid hbw
    clear hba hbw
    by_cases hs : PureE.smallP l1 l2 l3
    · rw [if_pos hs]
      obtain ⟨hs1, hs2, hs3, hs4⟩ := hs
      have HS4 := Lib.hid hs4
      clear hs4 h40
      by_cases hf : PureE.fitsP l0 l1 l2 l3 = true
      · have HF := Lib.hid hf
        go_wp2_with (fail)
        refine (state_Encode.calls 8000 A0 c0 l0 A1 c1 l1 A2 c2 l2 A3 c3 l3 (PureE.encB l0 l1 l2 l3) 0 w2 (Kd.C_below HR0.out HB.out) hc0 (Kd.C_below HR1.out HB.out) hc1 (Kd.C_below HR2.out HB.out) hc2 (Kd.C_below HR3.out HB.out) hc3 ((PureE.encode_f l0 l1 l2 l3 (by omega) (fun x hx => by have := HS4.out x hx; omega) (by omega) (by omega)).trans (by rw [if_pos hf]))).mono ?_
        rintro e w3 ⟨v0, rfl, hv0, hb3⟩
        have hba := HA.out.below hb3 HA.out.lt
        have hbw := HB.out.trans (hb3.mono HB.out.size)
        clear hac0 hac1 hac2 HA HB hb3
        have hac0 := hba.c0
        have hac1 := hba.c1
        have hac2 := hba.c2
        have HA := Lib.hid hba
        have HB := Lib.hid hbw
        clear hba hbw
        obtain ⟨E0, ec, hve⟩ := Kd.R_slice hv0
        subst hve
        have HV0 := Lib.hid hv0
        clear hv0
        obtain ⟨bs, hbs⟩ : ∃ bs, bs = PureE.encB l0 l1 l2 l3 := ⟨_, rfl⟩
        rw [← hbs] at HV0 ⊢
        have HBS := Lib.hid hbs
        have hblen : bs.length ≤ 100000 := by
          have := PureE.encB_len l0 l1 l2 l3 (fun x hx => HS4.out x hx) hs2 hs3 hs1
          rw [← hbs] at this; omega
        have hecl : bs.length ≤ ec := by have := (Kd.R_reads' HV0.out).2.1; exact this
        clear hbs hf
        go_wp2_with (fail)
        refine (backstepref10_Fits.calls (2 * l0.length + 2) A0 c0 l0 A1 c1 l1 A2 c2 l2 A3 c3 l3 true w3 (Kd.C_below HR0.out HB.out) hc0 (Kd.C_below HR1.out HB.out) hc1 (Kd.C_below HR2.out HB.out) hc2 (Kd.C_below HR3.out HB.out) hc3 ((PureE.reffits_f l0 l1 l2 l3 (by omega)).trans (by rw [HF.out]))).mono ?_
        rintro e w4 ⟨rfl, hb4⟩
        have nV0 := Kd.R_below HV0.out hb4
        have hba := HA.out.below hb4 HA.out.lt
        have hbw := HB.out.trans (hb4.mono HB.out.size)
        clear hac0 hac1 hac2 HA HB hb4
        have hac0 := hba.c0
        have hac1 := hba.c1
        have hac2 := hba.c2
        have HA := Lib.hid hba
        have HB := Lib.hid hbw
        clear hba hbw
        clear HV0
        have hC0 := (Kd.R_reads' nV0).2.2
        have HC0 := Lib.hid hC0
        clear nV0 hC0
        go_wp2_with (fail)
        refine (state_Decode.calls (2 * l0.length + 1) A0 c0 l0 E0 ec bs l1 l2 l3 0 w4 (Kd.C_below HR0.out HB.out) hc0 HC0.out hecl (PureE.decode_enc HBS.out HF.out G1.out G2.out G3.out (by omega) (by omega))).mono ?_
        rintro e w5 ⟨v1, v2, v3, rfl, hv1, hv2, hv3, hb5⟩
        have nC0 := Kd.C_below HC0.out hb5
        clear HC0
        have hba := HA.out.below hb5 HA.out.lt
        have hbw := HB.out.trans (hb5.mono HB.out.size)
        clear hac0 hac1 hac2 HA HB hb5
        have hac0 := hba.c0
        have hac1 := hba.c1
        have hac2 := hba.c2
        have HA := Lib.hid hba
        have HB := Lib.hid hbw
        clear hba hbw
        obtain ⟨D1, d1, hve1, hd1, hD1⟩ := Kd.R_reads (Kd.S_R hv1)
        obtain ⟨D2, d2, hve2, hd2, hD2⟩ := Kd.R_reads hv2
        obtain ⟨D3, d3, hve3, hd3, hD3⟩ := Kd.R_reads hv3
        subst hve1 hve2 hve3
        clear hv1 hv2 hv3
        go_upto_region 9 with (fail)
        obtain ⟨w6, hw6⟩ : ∃ w6, w6 = w5.alloc (.cells #[.slice D1 l1.length d1, .slice D2 l2.length d2, .slice D3 l3.length d3] 25) := ⟨_, rfl⟩
        rw [← hw6]
        have hb6 : Below w5.heap.size w5 w6 := by rw [hw6]; exact below_alloc (Below.refl _ _) _
        have hbd : BoxA w6 w5.heap.size (.slice D1 l1.length d1) (.slice D2 l2.length d2) (.slice D3 l3.length d3) := by rw [hw6]; exact BoxA.new w5 _ _ _
        have hba := HA.out.below hb6 HA.out.lt
        have hbw := HB.out.trans (hb6.mono HB.out.size)
        have nC0 := Kd.C_below nC0 hb6
        have hD1 := Kd.C_below hD1 hb6
        have hD2 := Kd.C_below hD2 hb6
        have hD3 := Kd.C_below hD3 hb6
        obtain ⟨y, hy⟩ : ∃ y, y = w5.heap.size := ⟨_, rfl⟩
        rw [← hy] at hbd ⊢
        clear hac0 hac1 hac2 HA HB hw6 hb6 hy
        have hmix : Try.prog.follows .mixedOrders = true := by kernel_rfl
        refine wp_region_any hmix ?_
        change wpAny _ _ _ _ _ _ _ (World.drew _)
        obtain ⟨wd, hwd⟩ : ∃ wd, wd = w6.drew := ⟨_, rfl⟩
        have hba : BoxA wd w.heap.size (.slice A1 l1.length c1) (.slice A2 l2.length c2) (.slice A3 l3.length c3) := by rw [hwd]; exact hba
        have hbd : BoxA wd y (.slice D1 l1.length d1) (.slice D2 l2.length d2) (.slice D3 l3.length d3) := by rw [hwd]; exact hbd
        have hbw : Below w.heap.size w wd := by rw [hwd]; exact below_drew1 hbw
        have nC0 : Kd.C (Kd.int .u8) wd E0 bs.length bs := by rw [hwd]; exact Kd.C_drew nC0
        have hD1 : Kd.C (Kd.slice 3 (Kd.int .i64)) wd D1 l1.length l1 := by rw [hwd]; exact Kd.C_drew hD1
        have hD2 : Kd.C (Kd.int .i64) wd D2 l2.length l2 := by rw [hwd]; exact Kd.C_drew hD2
        have hD3 : Kd.C (Kd.int .i64) wd D3 l3.length l3 := by rw [hwd]; exact Kd.C_drew hD3
        rw [← hwd]
        clear hwd
        have hac0 := hba.c0
        have hac1 := hba.c1
        have hac2 := hba.c2
        have hdc0 := hbd.c0
        have hdc1 := hbd.c1
        have hdc2 := hbd.c2
        have hcv := Kd.C_string (P := Try.prog) (src := 47) (dst := 9) (c := ec) Try.underlying47 Try.underlying5 Try.underlying9 nC0
        have HA := Lib.hid hba
        have HD := Lib.hid hbd
        have HB := Lib.hid hbw
        have HC0 := Lib.hid nC0
        have HD1 := Lib.hid hD1
        have HD2 := Lib.hid hD2
        have HD3 := Lib.hid hD3
        clear hba hbd hbw nC0 hD1 hD2 hD3
        refine wpAny_take (i := 0) (v := ?_) rfl (by kernel_rfl) (by kernel_rfl) (by kernel_rfl) (fun _ _ _ h => h) (Or.inl ⟨by rfl, ?_⟩) ?_
        case refine_2 => intro w'; go_simp; try rfl
        refine wpAny_take (i := 1) (v := ?_) rfl (by kernel_rfl) (by kernel_rfl) (by kernel_rfl) (fun _ _ _ h => h) (Or.inl ⟨by rfl, ?_⟩) ?_
        case refine_2 => intro w'; go_simp; try rfl
        refine wpAny_take (i := 2) (v := ?_) rfl (by kernel_rfl) (by kernel_rfl) (by kernel_rfl) (fun _ _ _ h => h) (Or.inl ⟨by rfl, ?_⟩) ?_
        case refine_2 => intro w'; go_simp; try rfl
        refine wpAny_take (i := 3) (v := ?_) rfl (by kernel_rfl) (by kernel_rfl) (by kernel_rfl) (fun _ _ _ h => h) (Or.inl ⟨by rfl, ?_⟩) ?_
        case refine_2 => intro w'; go_simp; try rfl
        refine wpAny_take (i := 5) (v := ?_) rfl (by kernel_rfl) (by kernel_rfl) (by kernel_rfl) (fun _ _ _ h => h) (Or.inl ⟨by rfl, ?_⟩) ?_
        case refine_2 => intro w'; go_simp; try rfl
        refine wpAny_ready (rs := [4, 6]) (by kernel_rfl) (by simp) (AllReady.cons rfl (fun K hK => ?e4_1) (AllReady.cons rfl (fun K hK => ?e6_1) (AllReady.nil)))
        case e4_1 =>
          go_simp
          refine hK _ _ ?_
          clear hK K
          refine wpAny_ready (rs := [6]) (by kernel_rfl) (by simp) (AllReady.cons rfl (fun K hK => ?e6_2) (AllReady.nil))
          case e6_2 =>
            go_simp
            refine hK _ _ ?_
            clear hK K
            refine wpAny_ready (rs := [7]) (by kernel_rfl) (by simp) (AllReady.cons rfl (fun K hK => ?e7_3) (AllReady.nil))
            case e7_3 =>
              go_simp
              refine (backstepref10_Encode.calls (l0.length + 5020) A0 c0 l0 A1 c1 l1 A2 c2 l2 A3 c3 l3 bs wd (Kd.C_below HR0.out HB.out) hc0 (Kd.C_below HR1.out HB.out) hc1 (Kd.C_below HR2.out HB.out) hc2 (Kd.C_below HR3.out HB.out) hc3 ((PureE.refenc_f l0 l1 l2 l3 (by omega) (PureE.fits_len HF.out) (fun x hx => by have := HS4.out x hx; omega) (by omega) (by omega)).trans (by rw [HBS.out]))).mono ?_
              rintro e w7 ⟨v7, rfl, hv7, hb7⟩
              have hba := HA.out.below hb7 HA.out.lt
              have hbd := HD.out.below hb7 HD.out.lt
              have hbw := HB.out.trans (hb7.mono HB.out.size)
              have nC0 := Kd.C_below HC0.out hb7
              have hD1 := Kd.C_below HD1.out hb7
              have hD2 := Kd.C_below HD2.out hb7
              have hD3 := Kd.C_below HD3.out hb7
              clear hac0 hac1 hac2 hdc0 hdc1 hdc2 hcv HA HD HB HC0 HD1 HD2 HD3 hb7
              have hac0 := hba.c0
              have hac1 := hba.c1
              have hac2 := hba.c2
              have hdc0 := hbd.c0
              have hdc1 := hbd.c1
              have hdc2 := hbd.c2
              have hcv := Kd.C_string (P := Try.prog) (src := 47) (dst := 9) (c := ec) Try.underlying47 Try.underlying5 Try.underlying9 nC0
              obtain ⟨F0, fc, hvf, hfl, hF0⟩ := Kd.R_reads hv7
              subst hvf
              have hcv2 := Kd.C_string (P := Try.prog) (src := 47) (dst := 9) (c := fc) Try.underlying47 Try.underlying5 Try.underlying9 hF0
              have HA := Lib.hid hba
              have HD := Lib.hid hbd
              have HB := Lib.hid hbw
              have HC0 := Lib.hid nC0
              have HD1 := Lib.hid hD1
              have HD2 := Lib.hid hD2
              have HD3 := Lib.hid hD3
              clear hba hbd hbw nC0 hD1 hD2 hD3 hv7 hF0
              refine hK _ _ ?_
              clear hK K
              refine wpAny_ready (rs := [8]) (by kernel_rfl) (by simp) (AllReady.cons rfl (fun K hK => ?e8_4) (AllReady.nil))
              case e8_4 =>
                go_simp
                refine hK _ _ ?_
                clear hK K
                refine wpAny_take (i := 9) (v := ?_) rfl (by kernel_rfl) (by kernel_rfl) (by kernel_rfl) (fun _ _ _ h => h) (Or.inl ⟨by rfl, ?_⟩) ?_
                case refine_2 => intro w'; go_simp; try rfl
                refine wpAny_take (i := 10) (v := ?_) rfl (by kernel_rfl) (by kernel_rfl) (by kernel_rfl) (fun _ _ _ h => h) (Or.inl ⟨by rfl, ?_⟩) ?_
                case refine_2 => intro w'; go_simp; try rfl
                refine wpAny_take (i := 11) (v := ?_) rfl (by kernel_rfl) (by kernel_rfl) (by kernel_rfl) (fun _ _ _ h => h) (Or.inl ⟨by rfl, ?_⟩) ?_
                case refine_2 => intro w'; go_simp; try rfl
                refine wpAny_take (i := 12) (v := ?_) rfl (by kernel_rfl) (by kernel_rfl) (by kernel_rfl) (fun _ _ _ h => h) (Or.inl ⟨by rfl, ?_⟩) ?_
                case refine_2 => intro w'; go_simp; try rfl
                refine wpAny_take (i := 13) (v := ?_) rfl (by kernel_rfl) (by kernel_rfl) (by kernel_rfl) (fun _ _ _ h => h) (Or.inl ⟨by rfl, ?_⟩) ?_
                case refine_2 => intro w'; go_simp; try rfl
                refine wpAny_take (i := 14) (v := ?_) rfl (by kernel_rfl) (by kernel_rfl) (by kernel_rfl) (fun _ _ _ h => h) (Or.inl ⟨by rfl, ?_⟩) ?_
                case refine_2 => intro w'; go_simp; try rfl
                refine wpAny_take (i := 15) (v := ?_) rfl (by kernel_rfl) (by kernel_rfl) (by kernel_rfl) (fun _ _ _ h => h) (Or.inl ⟨by rfl, ?_⟩) ?_
                case refine_2 => intro w'; go_simp; try rfl
                refine wpAny_ready (rs := [16, 17]) (by kernel_rfl) (by simp) (AllReady.cons rfl (fun K hK => ?e16_5) (AllReady.cons rfl (fun K hK => ?e17_5) (AllReady.nil)))
                case e16_5 =>
                  go_simp
                  refine hK _ _ ?_
                  clear hK K
                  refine wpAny_ready (rs := [17]) (by kernel_rfl) (by simp) (AllReady.cons rfl (fun K hK => ?e17_6) (AllReady.nil))
                  case e17_6 =>
                    go_simp
                    refine hK _ _ ?_
                    clear hK K
                    refine wpAny_ready (rs := [18]) (by kernel_rfl) (by simp) (AllReady.cons rfl (fun K hK => ?e18_7) (AllReady.nil))
                    case e18_7 =>
                      go_simp
                      refine (backstepref10_Equal.calls 2100 D1 d1 l1 D2 d2 l2 D3 d3 l3 A1 c1 l1 A2 c2 l2 A3 c3 l3 true w7 HD1.out hd1 HD2.out hd2 HD3.out hd3 (Kd.C_below HR1.out HB.out) hc1 (Kd.C_below HR2.out HB.out) hc2 (Kd.C_below HR3.out HB.out) hc3 ((PureE.refequal_f l1 l2 l3 l1 l2 l3 (by omega) (fun x hx => by have := HS4.out x hx; omega) (by omega) (by omega)).trans (by simp [PureE.sameP]))).mono ?_
                      rintro e w8 ⟨rfl, hb8⟩
                      have hbw := HB.out.trans (hb8.mono HB.out.size)
                      clear hac0 hac1 hac2 hdc0 hdc1 hdc2 hcv hcv2 HA HD HB HC0 HD1 HD2 HD3 hb8
                      have HB := Lib.hid hbw
                      clear hbw
                      refine hK _ _ ?_
                      clear hK K
                      refine wpAny_take (i := 19) (v := ?_) rfl (by kernel_rfl) (by kernel_rfl) (by kernel_rfl) (fun _ _ _ h => h) (Or.inl ⟨by rfl, ?_⟩) ?_
                      case refine_2 => intro w'; go_simp; try rfl
                      refine wpAny_ready (rs := [20]) (by kernel_rfl) (by simp) (AllReady.cons rfl (fun K hK => ?e20_8) (AllReady.nil))
                      case e20_8 =>
                        go_simp
                        refine hK _ _ ?_
                        clear hK K
                        refine wpAny_done (by kernel_rfl) ?_ _
                        go_wp2
                        go_ret
                        exact ⟨rfl, HB.out⟩
                case e17_5 =>
                  go_simp
                  refine hK _ _ ?_
                  clear hK K
                  refine wpAny_ready (rs := [16]) (by kernel_rfl) (by simp) (AllReady.cons rfl (fun K hK => ?e16_9) (AllReady.nil))
                  case e16_9 =>
                    go_simp
                    refine hK _ _ ?_
                    clear hK K
                    refine wpAny_ready (rs := [18]) (by kernel_rfl) (by simp) (AllReady.cons rfl (fun K hK => ?e18_10) (AllReady.nil))
                    case e18_10 =>
                      go_simp
                      refine (backstepref10_Equal.calls 2100 D1 d1 l1 D2 d2 l2 D3 d3 l3 A1 c1 l1 A2 c2 l2 A3 c3 l3 true w7 HD1.out hd1 HD2.out hd2 HD3.out hd3 (Kd.C_below HR1.out HB.out) hc1 (Kd.C_below HR2.out HB.out) hc2 (Kd.C_below HR3.out HB.out) hc3 ((PureE.refequal_f l1 l2 l3 l1 l2 l3 (by omega) (fun x hx => by have := HS4.out x hx; omega) (by omega) (by omega)).trans (by simp [PureE.sameP]))).mono ?_
                      rintro e w8 ⟨rfl, hb8⟩
                      have hbw := HB.out.trans (hb8.mono HB.out.size)
                      clear hac0 hac1 hac2 hdc0 hdc1 hdc2 hcv hcv2 HA HD HB HC0 HD1 HD2 HD3 hb8
                      have HB := Lib.hid hbw
                      clear hbw
                      refine hK _ _ ?_
                      clear hK K
                      refine wpAny_take (i := 19) (v := ?_) rfl (by kernel_rfl) (by kernel_rfl) (by kernel_rfl) (fun _ _ _ h => h) (Or.inl ⟨by rfl, ?_⟩) ?_
                      case refine_2 => intro w'; go_simp; try rfl
                      refine wpAny_ready (rs := [20]) (by kernel_rfl) (by simp) (AllReady.cons rfl (fun K hK => ?e20_11) (AllReady.nil))
                      case e20_11 =>
                        go_simp
                        refine hK _ _ ?_
                        clear hK K
                        refine wpAny_done (by kernel_rfl) ?_ _
                        go_wp2
                        go_ret
                        exact ⟨rfl, HB.out⟩
        case e6_1 =>
          go_simp
          refine hK _ _ ?_
          clear hK K
          refine wpAny_ready (rs := [4, 7]) (by kernel_rfl) (by simp) (AllReady.cons rfl (fun K hK => ?e4_12) (AllReady.cons rfl (fun K hK => ?e7_12) (AllReady.nil)))
          case e4_12 =>
            go_simp
            refine hK _ _ ?_
            clear hK K
            refine wpAny_ready (rs := [7]) (by kernel_rfl) (by simp) (AllReady.cons rfl (fun K hK => ?e7_13) (AllReady.nil))
            case e7_13 =>
              go_simp
              refine (backstepref10_Encode.calls (l0.length + 5020) A0 c0 l0 A1 c1 l1 A2 c2 l2 A3 c3 l3 bs wd (Kd.C_below HR0.out HB.out) hc0 (Kd.C_below HR1.out HB.out) hc1 (Kd.C_below HR2.out HB.out) hc2 (Kd.C_below HR3.out HB.out) hc3 ((PureE.refenc_f l0 l1 l2 l3 (by omega) (PureE.fits_len HF.out) (fun x hx => by have := HS4.out x hx; omega) (by omega) (by omega)).trans (by rw [HBS.out]))).mono ?_
              rintro e w7 ⟨v7, rfl, hv7, hb7⟩
              have hba := HA.out.below hb7 HA.out.lt
              have hbd := HD.out.below hb7 HD.out.lt
              have hbw := HB.out.trans (hb7.mono HB.out.size)
              have nC0 := Kd.C_below HC0.out hb7
              have hD1 := Kd.C_below HD1.out hb7
              have hD2 := Kd.C_below HD2.out hb7
              have hD3 := Kd.C_below HD3.out hb7
              clear hac0 hac1 hac2 hdc0 hdc1 hdc2 hcv HA HD HB HC0 HD1 HD2 HD3 hb7
              have hac0 := hba.c0
              have hac1 := hba.c1
              have hac2 := hba.c2
              have hdc0 := hbd.c0
              have hdc1 := hbd.c1
              have hdc2 := hbd.c2
              have hcv := Kd.C_string (P := Try.prog) (src := 47) (dst := 9) (c := ec) Try.underlying47 Try.underlying5 Try.underlying9 nC0
              obtain ⟨F0, fc, hvf, hfl, hF0⟩ := Kd.R_reads hv7
              subst hvf
              have hcv2 := Kd.C_string (P := Try.prog) (src := 47) (dst := 9) (c := fc) Try.underlying47 Try.underlying5 Try.underlying9 hF0
              have HA := Lib.hid hba
              have HD := Lib.hid hbd
              have HB := Lib.hid hbw
              have HC0 := Lib.hid nC0
              have HD1 := Lib.hid hD1
              have HD2 := Lib.hid hD2
              have HD3 := Lib.hid hD3
              clear hba hbd hbw nC0 hD1 hD2 hD3 hv7 hF0
              refine hK _ _ ?_
              clear hK K
              refine wpAny_ready (rs := [8]) (by kernel_rfl) (by simp) (AllReady.cons rfl (fun K hK => ?e8_14) (AllReady.nil))
              case e8_14 =>
                go_simp
                refine hK _ _ ?_
                clear hK K
                refine wpAny_take (i := 9) (v := ?_) rfl (by kernel_rfl) (by kernel_rfl) (by kernel_rfl) (fun _ _ _ h => h) (Or.inl ⟨by rfl, ?_⟩) ?_
                case refine_2 => intro w'; go_simp; try rfl
                refine wpAny_take (i := 10) (v := ?_) rfl (by kernel_rfl) (by kernel_rfl) (by kernel_rfl) (fun _ _ _ h => h) (Or.inl ⟨by rfl, ?_⟩) ?_
                case refine_2 => intro w'; go_simp; try rfl
                refine wpAny_take (i := 11) (v := ?_) rfl (by kernel_rfl) (by kernel_rfl) (by kernel_rfl) (fun _ _ _ h => h) (Or.inl ⟨by rfl, ?_⟩) ?_
                case refine_2 => intro w'; go_simp; try rfl
                refine wpAny_take (i := 12) (v := ?_) rfl (by kernel_rfl) (by kernel_rfl) (by kernel_rfl) (fun _ _ _ h => h) (Or.inl ⟨by rfl, ?_⟩) ?_
                case refine_2 => intro w'; go_simp; try rfl
                refine wpAny_take (i := 13) (v := ?_) rfl (by kernel_rfl) (by kernel_rfl) (by kernel_rfl) (fun _ _ _ h => h) (Or.inl ⟨by rfl, ?_⟩) ?_
                case refine_2 => intro w'; go_simp; try rfl
                refine wpAny_take (i := 14) (v := ?_) rfl (by kernel_rfl) (by kernel_rfl) (by kernel_rfl) (fun _ _ _ h => h) (Or.inl ⟨by rfl, ?_⟩) ?_
                case refine_2 => intro w'; go_simp; try rfl
                refine wpAny_take (i := 15) (v := ?_) rfl (by kernel_rfl) (by kernel_rfl) (by kernel_rfl) (fun _ _ _ h => h) (Or.inl ⟨by rfl, ?_⟩) ?_
                case refine_2 => intro w'; go_simp; try rfl
                refine wpAny_ready (rs := [16, 17]) (by kernel_rfl) (by simp) (AllReady.cons rfl (fun K hK => ?e16_15) (AllReady.cons rfl (fun K hK => ?e17_15) (AllReady.nil)))
                case e16_15 =>
                  go_simp
                  refine hK _ _ ?_
                  clear hK K
                  refine wpAny_ready (rs := [17]) (by kernel_rfl) (by simp) (AllReady.cons rfl (fun K hK => ?e17_16) (AllReady.nil))
                  case e17_16 =>
                    go_simp
                    refine hK _ _ ?_
                    clear hK K
                    refine wpAny_ready (rs := [18]) (by kernel_rfl) (by simp) (AllReady.cons rfl (fun K hK => ?e18_17) (AllReady.nil))
                    case e18_17 =>
                      go_simp
                      refine (backstepref10_Equal.calls 2100 D1 d1 l1 D2 d2 l2 D3 d3 l3 A1 c1 l1 A2 c2 l2 A3 c3 l3 true w7 HD1.out hd1 HD2.out hd2 HD3.out hd3 (Kd.C_below HR1.out HB.out) hc1 (Kd.C_below HR2.out HB.out) hc2 (Kd.C_below HR3.out HB.out) hc3 ((PureE.refequal_f l1 l2 l3 l1 l2 l3 (by omega) (fun x hx => by have := HS4.out x hx; omega) (by omega) (by omega)).trans (by simp [PureE.sameP]))).mono ?_
                      rintro e w8 ⟨rfl, hb8⟩
                      have hbw := HB.out.trans (hb8.mono HB.out.size)
                      clear hac0 hac1 hac2 hdc0 hdc1 hdc2 hcv hcv2 HA HD HB HC0 HD1 HD2 HD3 hb8
                      have HB := Lib.hid hbw
                      clear hbw
                      refine hK _ _ ?_
                      clear hK K
                      refine wpAny_take (i := 19) (v := ?_) rfl (by kernel_rfl) (by kernel_rfl) (by kernel_rfl) (fun _ _ _ h => h) (Or.inl ⟨by rfl, ?_⟩) ?_
                      case refine_2 => intro w'; go_simp; try rfl
                      refine wpAny_ready (rs := [20]) (by kernel_rfl) (by simp) (AllReady.cons rfl (fun K hK => ?e20_18) (AllReady.nil))
                      case e20_18 =>
                        go_simp
                        refine hK _ _ ?_
                        clear hK K
                        refine wpAny_done (by kernel_rfl) ?_ _
                        go_wp2
                        go_ret
                        exact ⟨rfl, HB.out⟩
                case e17_15 =>
                  go_simp
                  refine hK _ _ ?_
                  clear hK K
                  refine wpAny_ready (rs := [16]) (by kernel_rfl) (by simp) (AllReady.cons rfl (fun K hK => ?e16_19) (AllReady.nil))
                  case e16_19 =>
                    go_simp
                    refine hK _ _ ?_
                    clear hK K
                    refine wpAny_ready (rs := [18]) (by kernel_rfl) (by simp) (AllReady.cons rfl (fun K hK => ?e18_20) (AllReady.nil))
                    case e18_20 =>
                      go_simp
                      refine (backstepref10_Equal.calls 2100 D1 d1 l1 D2 d2 l2 D3 d3 l3 A1 c1 l1 A2 c2 l2 A3 c3 l3 true w7 HD1.out hd1 HD2.out hd2 HD3.out hd3 (Kd.C_below HR1.out HB.out) hc1 (Kd.C_below HR2.out HB.out) hc2 (Kd.C_below HR3.out HB.out) hc3 ((PureE.refequal_f l1 l2 l3 l1 l2 l3 (by omega) (fun x hx => by have := HS4.out x hx; omega) (by omega) (by omega)).trans (by simp [PureE.sameP]))).mono ?_
                      rintro e w8 ⟨rfl, hb8⟩
                      have hbw := HB.out.trans (hb8.mono HB.out.size)
                      clear hac0 hac1 hac2 hdc0 hdc1 hdc2 hcv hcv2 HA HD HB HC0 HD1 HD2 HD3 hb8
                      have HB := Lib.hid hbw
                      clear hbw
                      refine hK _ _ ?_
                      clear hK K
                      refine wpAny_take (i := 19) (v := ?_) rfl (by kernel_rfl) (by kernel_rfl) (by kernel_rfl) (fun _ _ _ h => h) (Or.inl ⟨by rfl, ?_⟩) ?_
                      case refine_2 => intro w'; go_simp; try rfl
                      refine wpAny_ready (rs := [20]) (by kernel_rfl) (by simp) (AllReady.cons rfl (fun K hK => ?e20_21) (AllReady.nil))
                      case e20_21 =>
                        go_simp
                        refine hK _ _ ?_
                        clear hK K
                        refine wpAny_done (by kernel_rfl) ?_ _
                        go_wp2
                        go_ret
                        exact ⟨rfl, HB.out⟩
          case e7_12 =>
            go_simp
            refine (backstepref10_Encode.calls (l0.length + 5020) A0 c0 l0 A1 c1 l1 A2 c2 l2 A3 c3 l3 bs wd (Kd.C_below HR0.out HB.out) hc0 (Kd.C_below HR1.out HB.out) hc1 (Kd.C_below HR2.out HB.out) hc2 (Kd.C_below HR3.out HB.out) hc3 ((PureE.refenc_f l0 l1 l2 l3 (by omega) (PureE.fits_len HF.out) (fun x hx => by have := HS4.out x hx; omega) (by omega) (by omega)).trans (by rw [HBS.out]))).mono ?_
            rintro e w7 ⟨v7, rfl, hv7, hb7⟩
            have hba := HA.out.below hb7 HA.out.lt
            have hbd := HD.out.below hb7 HD.out.lt
            have hbw := HB.out.trans (hb7.mono HB.out.size)
            have nC0 := Kd.C_below HC0.out hb7
            have hD1 := Kd.C_below HD1.out hb7
            have hD2 := Kd.C_below HD2.out hb7
            have hD3 := Kd.C_below HD3.out hb7
            clear hac0 hac1 hac2 hdc0 hdc1 hdc2 hcv HA HD HB HC0 HD1 HD2 HD3 hb7
            have hac0 := hba.c0
            have hac1 := hba.c1
            have hac2 := hba.c2
            have hdc0 := hbd.c0
            have hdc1 := hbd.c1
            have hdc2 := hbd.c2
            have hcv := Kd.C_string (P := Try.prog) (src := 47) (dst := 9) (c := ec) Try.underlying47 Try.underlying5 Try.underlying9 nC0
            obtain ⟨F0, fc, hvf, hfl, hF0⟩ := Kd.R_reads hv7
            subst hvf
            have hcv2 := Kd.C_string (P := Try.prog) (src := 47) (dst := 9) (c := fc) Try.underlying47 Try.underlying5 Try.underlying9 hF0
            have HA := Lib.hid hba
            have HD := Lib.hid hbd
            have HB := Lib.hid hbw
            have HC0 := Lib.hid nC0
            have HD1 := Lib.hid hD1
            have HD2 := Lib.hid hD2
            have HD3 := Lib.hid hD3
            clear hba hbd hbw nC0 hD1 hD2 hD3 hv7 hF0
            refine hK _ _ ?_
            clear hK K
            refine wpAny_ready (rs := [4, 8]) (by kernel_rfl) (by simp) (AllReady.cons rfl (fun K hK => ?e4_22) (AllReady.cons rfl (fun K hK => ?e8_22) (AllReady.nil)))
            case e4_22 =>
              go_simp
              refine hK _ _ ?_
              clear hK K
              refine wpAny_ready (rs := [8]) (by kernel_rfl) (by simp) (AllReady.cons rfl (fun K hK => ?e8_23) (AllReady.nil))
              case e8_23 =>
                go_simp
                refine hK _ _ ?_
                clear hK K
                refine wpAny_take (i := 9) (v := ?_) rfl (by kernel_rfl) (by kernel_rfl) (by kernel_rfl) (fun _ _ _ h => h) (Or.inl ⟨by rfl, ?_⟩) ?_
                case refine_2 => intro w'; go_simp; try rfl
                refine wpAny_take (i := 10) (v := ?_) rfl (by kernel_rfl) (by kernel_rfl) (by kernel_rfl) (fun _ _ _ h => h) (Or.inl ⟨by rfl, ?_⟩) ?_
                case refine_2 => intro w'; go_simp; try rfl
                refine wpAny_take (i := 11) (v := ?_) rfl (by kernel_rfl) (by kernel_rfl) (by kernel_rfl) (fun _ _ _ h => h) (Or.inl ⟨by rfl, ?_⟩) ?_
                case refine_2 => intro w'; go_simp; try rfl
                refine wpAny_take (i := 12) (v := ?_) rfl (by kernel_rfl) (by kernel_rfl) (by kernel_rfl) (fun _ _ _ h => h) (Or.inl ⟨by rfl, ?_⟩) ?_
                case refine_2 => intro w'; go_simp; try rfl
                refine wpAny_take (i := 13) (v := ?_) rfl (by kernel_rfl) (by kernel_rfl) (by kernel_rfl) (fun _ _ _ h => h) (Or.inl ⟨by rfl, ?_⟩) ?_
                case refine_2 => intro w'; go_simp; try rfl
                refine wpAny_take (i := 14) (v := ?_) rfl (by kernel_rfl) (by kernel_rfl) (by kernel_rfl) (fun _ _ _ h => h) (Or.inl ⟨by rfl, ?_⟩) ?_
                case refine_2 => intro w'; go_simp; try rfl
                refine wpAny_take (i := 15) (v := ?_) rfl (by kernel_rfl) (by kernel_rfl) (by kernel_rfl) (fun _ _ _ h => h) (Or.inl ⟨by rfl, ?_⟩) ?_
                case refine_2 => intro w'; go_simp; try rfl
                refine wpAny_ready (rs := [16, 17]) (by kernel_rfl) (by simp) (AllReady.cons rfl (fun K hK => ?e16_24) (AllReady.cons rfl (fun K hK => ?e17_24) (AllReady.nil)))
                case e16_24 =>
                  go_simp
                  refine hK _ _ ?_
                  clear hK K
                  refine wpAny_ready (rs := [17]) (by kernel_rfl) (by simp) (AllReady.cons rfl (fun K hK => ?e17_25) (AllReady.nil))
                  case e17_25 =>
                    go_simp
                    refine hK _ _ ?_
                    clear hK K
                    refine wpAny_ready (rs := [18]) (by kernel_rfl) (by simp) (AllReady.cons rfl (fun K hK => ?e18_26) (AllReady.nil))
                    case e18_26 =>
                      go_simp
                      refine (backstepref10_Equal.calls 2100 D1 d1 l1 D2 d2 l2 D3 d3 l3 A1 c1 l1 A2 c2 l2 A3 c3 l3 true w7 HD1.out hd1 HD2.out hd2 HD3.out hd3 (Kd.C_below HR1.out HB.out) hc1 (Kd.C_below HR2.out HB.out) hc2 (Kd.C_below HR3.out HB.out) hc3 ((PureE.refequal_f l1 l2 l3 l1 l2 l3 (by omega) (fun x hx => by have := HS4.out x hx; omega) (by omega) (by omega)).trans (by simp [PureE.sameP]))).mono ?_
                      rintro e w8 ⟨rfl, hb8⟩
                      have hbw := HB.out.trans (hb8.mono HB.out.size)
                      clear hac0 hac1 hac2 hdc0 hdc1 hdc2 hcv hcv2 HA HD HB HC0 HD1 HD2 HD3 hb8
                      have HB := Lib.hid hbw
                      clear hbw
                      refine hK _ _ ?_
                      clear hK K
                      refine wpAny_take (i := 19) (v := ?_) rfl (by kernel_rfl) (by kernel_rfl) (by kernel_rfl) (fun _ _ _ h => h) (Or.inl ⟨by rfl, ?_⟩) ?_
                      case refine_2 => intro w'; go_simp; try rfl
                      refine wpAny_ready (rs := [20]) (by kernel_rfl) (by simp) (AllReady.cons rfl (fun K hK => ?e20_27) (AllReady.nil))
                      case e20_27 =>
                        go_simp
                        refine hK _ _ ?_
                        clear hK K
                        refine wpAny_done (by kernel_rfl) ?_ _
                        go_wp2
                        go_ret
                        exact ⟨rfl, HB.out⟩
                case e17_24 =>
                  go_simp
                  refine hK _ _ ?_
                  clear hK K
                  refine wpAny_ready (rs := [16]) (by kernel_rfl) (by simp) (AllReady.cons rfl (fun K hK => ?e16_28) (AllReady.nil))
                  case e16_28 =>
                    go_simp
                    refine hK _ _ ?_
                    clear hK K
                    refine wpAny_ready (rs := [18]) (by kernel_rfl) (by simp) (AllReady.cons rfl (fun K hK => ?e18_29) (AllReady.nil))
                    case e18_29 =>
                      go_simp
                      refine (backstepref10_Equal.calls 2100 D1 d1 l1 D2 d2 l2 D3 d3 l3 A1 c1 l1 A2 c2 l2 A3 c3 l3 true w7 HD1.out hd1 HD2.out hd2 HD3.out hd3 (Kd.C_below HR1.out HB.out) hc1 (Kd.C_below HR2.out HB.out) hc2 (Kd.C_below HR3.out HB.out) hc3 ((PureE.refequal_f l1 l2 l3 l1 l2 l3 (by omega) (fun x hx => by have := HS4.out x hx; omega) (by omega) (by omega)).trans (by simp [PureE.sameP]))).mono ?_
                      rintro e w8 ⟨rfl, hb8⟩
                      have hbw := HB.out.trans (hb8.mono HB.out.size)
                      clear hac0 hac1 hac2 hdc0 hdc1 hdc2 hcv hcv2 HA HD HB HC0 HD1 HD2 HD3 hb8
                      have HB := Lib.hid hbw
                      clear hbw
                      refine hK _ _ ?_
                      clear hK K
                      refine wpAny_take (i := 19) (v := ?_) rfl (by kernel_rfl) (by kernel_rfl) (by kernel_rfl) (fun _ _ _ h => h) (Or.inl ⟨by rfl, ?_⟩) ?_
                      case refine_2 => intro w'; go_simp; try rfl
                      refine wpAny_ready (rs := [20]) (by kernel_rfl) (by simp) (AllReady.cons rfl (fun K hK => ?e20_30) (AllReady.nil))
                      case e20_30 =>
                        go_simp
                        refine hK _ _ ?_
                        clear hK K
                        refine wpAny_done (by kernel_rfl) ?_ _
                        go_wp2
                        go_ret
                        exact ⟨rfl, HB.out⟩
            case e8_22 =>
              go_simp
              refine hK _ _ ?_
              clear hK K
              refine wpAny_ready (rs := [4]) (by kernel_rfl) (by simp) (AllReady.cons rfl (fun K hK => ?e4_31) (AllReady.nil))
              case e4_31 =>
                go_simp
                refine hK _ _ ?_
                clear hK K
                refine wpAny_take (i := 9) (v := ?_) rfl (by kernel_rfl) (by kernel_rfl) (by kernel_rfl) (fun _ _ _ h => h) (Or.inl ⟨by rfl, ?_⟩) ?_
                case refine_2 => intro w'; go_simp; try rfl
                refine wpAny_take (i := 10) (v := ?_) rfl (by kernel_rfl) (by kernel_rfl) (by kernel_rfl) (fun _ _ _ h => h) (Or.inl ⟨by rfl, ?_⟩) ?_
                case refine_2 => intro w'; go_simp; try rfl
                refine wpAny_take (i := 11) (v := ?_) rfl (by kernel_rfl) (by kernel_rfl) (by kernel_rfl) (fun _ _ _ h => h) (Or.inl ⟨by rfl, ?_⟩) ?_
                case refine_2 => intro w'; go_simp; try rfl
                refine wpAny_take (i := 12) (v := ?_) rfl (by kernel_rfl) (by kernel_rfl) (by kernel_rfl) (fun _ _ _ h => h) (Or.inl ⟨by rfl, ?_⟩) ?_
                case refine_2 => intro w'; go_simp; try rfl
                refine wpAny_take (i := 13) (v := ?_) rfl (by kernel_rfl) (by kernel_rfl) (by kernel_rfl) (fun _ _ _ h => h) (Or.inl ⟨by rfl, ?_⟩) ?_
                case refine_2 => intro w'; go_simp; try rfl
                refine wpAny_take (i := 14) (v := ?_) rfl (by kernel_rfl) (by kernel_rfl) (by kernel_rfl) (fun _ _ _ h => h) (Or.inl ⟨by rfl, ?_⟩) ?_
                case refine_2 => intro w'; go_simp; try rfl
                refine wpAny_take (i := 15) (v := ?_) rfl (by kernel_rfl) (by kernel_rfl) (by kernel_rfl) (fun _ _ _ h => h) (Or.inl ⟨by rfl, ?_⟩) ?_
                case refine_2 => intro w'; go_simp; try rfl
                refine wpAny_ready (rs := [16, 17]) (by kernel_rfl) (by simp) (AllReady.cons rfl (fun K hK => ?e16_32) (AllReady.cons rfl (fun K hK => ?e17_32) (AllReady.nil)))
                case e16_32 =>
                  go_simp
                  refine hK _ _ ?_
                  clear hK K
                  refine wpAny_ready (rs := [17]) (by kernel_rfl) (by simp) (AllReady.cons rfl (fun K hK => ?e17_33) (AllReady.nil))
                  case e17_33 =>
                    go_simp
                    refine hK _ _ ?_
                    clear hK K
                    refine wpAny_ready (rs := [18]) (by kernel_rfl) (by simp) (AllReady.cons rfl (fun K hK => ?e18_34) (AllReady.nil))
                    case e18_34 =>
                      go_simp
                      refine (backstepref10_Equal.calls 2100 D1 d1 l1 D2 d2 l2 D3 d3 l3 A1 c1 l1 A2 c2 l2 A3 c3 l3 true w7 HD1.out hd1 HD2.out hd2 HD3.out hd3 (Kd.C_below HR1.out HB.out) hc1 (Kd.C_below HR2.out HB.out) hc2 (Kd.C_below HR3.out HB.out) hc3 ((PureE.refequal_f l1 l2 l3 l1 l2 l3 (by omega) (fun x hx => by have := HS4.out x hx; omega) (by omega) (by omega)).trans (by simp [PureE.sameP]))).mono ?_
                      rintro e w8 ⟨rfl, hb8⟩
                      have hbw := HB.out.trans (hb8.mono HB.out.size)
                      clear hac0 hac1 hac2 hdc0 hdc1 hdc2 hcv hcv2 HA HD HB HC0 HD1 HD2 HD3 hb8
                      have HB := Lib.hid hbw
                      clear hbw
                      refine hK _ _ ?_
                      clear hK K
                      refine wpAny_take (i := 19) (v := ?_) rfl (by kernel_rfl) (by kernel_rfl) (by kernel_rfl) (fun _ _ _ h => h) (Or.inl ⟨by rfl, ?_⟩) ?_
                      case refine_2 => intro w'; go_simp; try rfl
                      refine wpAny_ready (rs := [20]) (by kernel_rfl) (by simp) (AllReady.cons rfl (fun K hK => ?e20_35) (AllReady.nil))
                      case e20_35 =>
                        go_simp
                        refine hK _ _ ?_
                        clear hK K
                        refine wpAny_done (by kernel_rfl) ?_ _
                        go_wp2
                        go_ret
                        exact ⟨rfl, HB.out⟩
                case e17_32 =>
                  go_simp
                  refine hK _ _ ?_
                  clear hK K
                  refine wpAny_ready (rs := [16]) (by kernel_rfl) (by simp) (AllReady.cons rfl (fun K hK => ?e16_36) (AllReady.nil))
                  case e16_36 =>
                    go_simp
                    refine hK _ _ ?_
                    clear hK K
                    refine wpAny_ready (rs := [18]) (by kernel_rfl) (by simp) (AllReady.cons rfl (fun K hK => ?e18_37) (AllReady.nil))
                    case e18_37 =>
                      go_simp
                      refine (backstepref10_Equal.calls 2100 D1 d1 l1 D2 d2 l2 D3 d3 l3 A1 c1 l1 A2 c2 l2 A3 c3 l3 true w7 HD1.out hd1 HD2.out hd2 HD3.out hd3 (Kd.C_below HR1.out HB.out) hc1 (Kd.C_below HR2.out HB.out) hc2 (Kd.C_below HR3.out HB.out) hc3 ((PureE.refequal_f l1 l2 l3 l1 l2 l3 (by omega) (fun x hx => by have := HS4.out x hx; omega) (by omega) (by omega)).trans (by simp [PureE.sameP]))).mono ?_
                      rintro e w8 ⟨rfl, hb8⟩
                      have hbw := HB.out.trans (hb8.mono HB.out.size)
                      clear hac0 hac1 hac2 hdc0 hdc1 hdc2 hcv hcv2 HA HD HB HC0 HD1 HD2 HD3 hb8
                      have HB := Lib.hid hbw
                      clear hbw
                      refine hK _ _ ?_
                      clear hK K
                      refine wpAny_take (i := 19) (v := ?_) rfl (by kernel_rfl) (by kernel_rfl) (by kernel_rfl) (fun _ _ _ h => h) (Or.inl ⟨by rfl, ?_⟩) ?_
                      case refine_2 => intro w'; go_simp; try rfl
                      refine wpAny_ready (rs := [20]) (by kernel_rfl) (by simp) (AllReady.cons rfl (fun K hK => ?e20_38) (AllReady.nil))
                      case e20_38 =>
                        go_simp
                        refine hK _ _ ?_
                        clear hK K
                        refine wpAny_done (by kernel_rfl) ?_ _
                        go_wp2
                        go_ret
                        exact ⟨rfl, HB.out⟩
      · have hff : PureE.fitsP l0 l1 l2 l3 = false := by simpa using hf
        have HF := Lib.hid hff
        go_wp2_with (fail)
        refine (state_Encode.calls 8000 A0 c0 l0 A1 c1 l1 A2 c2 l2 A3 c3 l3 [] 3 w2 (Kd.C_below HR0.out HB.out) hc0 (Kd.C_below HR1.out HB.out) hc1 (Kd.C_below HR2.out HB.out) hc2 (Kd.C_below HR3.out HB.out) hc3 ((PureE.encode_f l0 l1 l2 l3 (by omega) (fun x hx => by have := HS4.out x hx; omega) (by omega) (by omega)).trans (by rw [if_neg hf]))).mono ?_
        rintro e w3 ⟨v0, rfl, hv0, hb3⟩
        have hba := HA.out.below hb3 HA.out.lt
        have hbw := HB.out.trans (hb3.mono HB.out.size)
        clear hac0 hac1 hac2 HA HB hb3
        have hac0 := hba.c0
        have hac1 := hba.c1
        have hac2 := hba.c2
        have HA := Lib.hid hba
        have HB := Lib.hid hbw
        clear hba hbw
        obtain ⟨E0, ec, hve⟩ := Kd.R_slice hv0
        subst hve
        have HV0 := Lib.hid hv0
        clear hv0
        clear hf hff
        go_wp2_with (fail)
        refine (backstepref10_Fits.calls (2 * l0.length + 2) A0 c0 l0 A1 c1 l1 A2 c2 l2 A3 c3 l3 false w3 (Kd.C_below HR0.out HB.out) hc0 (Kd.C_below HR1.out HB.out) hc1 (Kd.C_below HR2.out HB.out) hc2 (Kd.C_below HR3.out HB.out) hc3 ((PureE.reffits_f l0 l1 l2 l3 (by omega)).trans (by rw [HF.out]))).mono ?_
        rintro e w4 ⟨rfl, hb4⟩
        have hbw := HB.out.trans (hb4.mono HB.out.size)
        clear hac0 hac1 hac2 HA HB hb4
        have HB := Lib.hid hbw
        clear hbw
        go_wp2
        go_ret
        exact ⟨rfl, HB.out⟩
    · rw [if_neg hs]
      go_wp2
      go_ret
      exact ⟨rfl, HB.out⟩
end Go.Proofs.Ytjphfhmkpknfaaa.PAll
