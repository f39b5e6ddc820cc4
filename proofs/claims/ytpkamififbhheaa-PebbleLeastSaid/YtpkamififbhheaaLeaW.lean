/- backsteplaw44.PebbleLeast: what its calls tell makes it return true. -/
import Derived.Test.YtpkamififbhheaaPAllx4
import Derived.Test.YtpkamififbhheaaBst
import Derived.Test.YtpkamififbhheaaLeg
import Derived.Test.YtpkamififbhheaaHelp
set_option linter.unusedVariables false
set_option linter.unusedSimpArgs false
namespace Go.Proofs.Ytpkamififbhheaa.PAll
open Go.RowKit Go.Proofs.YtpkamififbhheaaW.PrintWords Go.Proofs.YtpkamififbhheaaW.PrintLast Go.Proofs.YtpkamififbhheaaW.PrintMore

/-- What is asked of a sequence x at a nodes. -/
def LeastOk (k : Nat) (a : Int) (x : List Int) : Prop :=
  ∃ s ok, pebble_Legal.f a x = some (s, ok) ∧ (ok = true → ∃ P best, pebble_Peak.f k x = some P ∧ pebble_Best.f k a P = some (best, true) ∧ best.length ≤ x.length)
set_option maxRecDepth 100000 in
set_option maxHeartbeats 4000000 in
theorem least_calls (k : Nat) (a0 a1 a b : Int) (A2 : Option Addr) (c2 : Nat) (l2 : List Int) (g : Bool) (w : World) (h0 : 0 ≤ a0 ∧ a0 < 256) (h1 : 0 ≤ a1 ∧ a1 < 256) (hea : 1 + a0 % 8 = a) (heb : 2 + a1 % 8 = b)
    (hr2 : Kd.C (Kd.int .i64) w A2 l2.length l2) (hc2 : l2.length ≤ c2) (ha : backsteplaw44_awake.f k = some true) (hg : backsteplaw44_great.f k l2 = some g)
    (h : g = false → ∃ bl, pebble_Bennett.f a b = some (bl, 0) ∧ LeastOk k a bl ∧ LeastOk k a l2 ∧ bl.length ≤ 1000000 ∧ l2.length ≤ 1000000) :
    Calls Try.prog 9 #[.int .u8 a0, .int .u8 a1, .slice A2 l2.length c2] w fun e w' => e = .returned (.bool true) ∧ Below w.heap.size w w' := by
  have HA := Lib.hid ha
  have HG := Lib.hid hg
  have H := Lib.hid h
  have HR := Lib.hid hr2
  clear ha hg h hr2
  go_enter Try.func9, Try.ntmps9
  go_wp2_with fail
  refine (backsteplaw44_awake.calls k true w HA.out).mono ?_
  rintro e w1 ⟨rfl, hb1⟩
  have HB1 := Lib.hid hb1
  clear hb1
  go_wp2_with fail
  refine (backsteplaw44_great.calls k A2 c2 l2 g w1 (Kd.C_below HR.out HB1.out) hc2 HG.out).mono ?_
  rintro e w2 ⟨rfl, hd⟩
  obtain ⟨nd, rfl⟩ := hd
  have HB2 := Lib.hid (show Below w.heap.size w (w1.drewN nd) from by repeat (first | exact HB1.out | apply pw_below_drewN))
  obtain ⟨w2, hw2⟩ : ∃ w2, w2 = w1.drewN nd := ⟨_, rfl⟩
  rw [← hw2] at HB2 ⊢
  clear hw2 HB1
  cases g with
  | true =>
    go_wp2_with fail
    refine (backsteplaw44_awake.calls k true w2 HA.out).mono ?_
    rintro e w3 ⟨rfl, hb3⟩
    go_wp2
    go_ret
    exact ⟨rfl, HB2.out.trans (hb3.mono HB2.out.size)⟩
  | false =>
    obtain ⟨bl, hbl, ok1, ok2, hl1, hl2⟩ := H.out rfl
    have HBL := Lib.hid hbl
    have HO1 := Lib.hid ok1
    have HO2 := Lib.hid ok2
    clear hbl ok1 ok2
    go_wp2_with fail
    refine (pebble_Bennett.calls a b bl 0 w2 HBL.out).mono ?_
    rintro e w3 ⟨v, rfl, hv, hb3⟩
    obtain ⟨Ab, cb, rfl⟩ := Kd.R_slice hv
    have HB3 := Lib.hid (HB2.out.trans (hb3.mono HB2.out.size))
    have hcb := (Kd.R_reads' hv).2.1
    have hCb := (Kd.R_reads' hv).2.2
    have hC2 := Kd.C_below HR.out HB3.out
    obtain ⟨w4, hw4⟩ : ∃ w4, w4 = w3.alloc (.cells #[.slice Ab bl.length cb, .slice A2 l2.length c2] 23) := ⟨_, rfl⟩
    obtain ⟨z, hz⟩ : ∃ z, z = w3.heap.size := ⟨_, rfl⟩
    have hblk : w4.heap[z]? = some (.cells #[.slice Ab bl.length cb, .slice A2 l2.length c2] 23 (0, 0)) := by rw [hw4, hz]; exact World.alloc_heap_new w3 _
    have hzl : z < w4.heap.size := by rw [hw4, hz]; simp
    have hCb4 : Kd.C (Kd.int .i64) w4 Ab bl.length bl := by rw [hw4]; exact Kd.C_alloc hCb _
    have hC24 : Kd.C (Kd.int .i64) w4 A2 l2.length l2 := by rw [hw4]; exact Kd.C_alloc hC2 _
    have hB4 : Below w.heap.size w w4 := by rw [hw4]; exact below_alloc HB3.out _
    have HBK := Lib.hid hblk
    have HCB := Lib.hid hCb4
    have HC2 := Lib.hid hC24
    have HB4 := Lib.hid hB4
    clear hv hb3 hCb hC2 hblk hCb4 hC24 hB4 HB3
    go_upto_region 7 with (fail)
    go_wp2
    rw [← hz, ← hw4]
    clear hz hw4
    go_loopw [44] (fun vi wr => ∃ (i : Nat), i ≤ 2 ∧ vi = .int .i64 i ∧ Aside0 (Below w4.heap.size w4 wr)) (fun vi _ => 2 - (intOf vi).toNat)
    case atStart => exact ⟨0, by omega, rfl, ⟨Below.refl _ _⟩⟩
    case round =>
      obtain ⟨i, hi2, rfl, HW⟩ := hrel
      have hbw : wr.heap[z]? = some (.cells #[.slice Ab bl.length cb, .slice A2 l2.length c2] 23 (0, 0)) := (HW.out.block z hzl).trans HBK.out
      obtain rfl | rfl | rfl : i = 0 ∨ i = 1 ∨ i = 2 := by omega
      · have hc0 : wr.cell? ⟨z, 0, none⟩ = some (.slice Ab bl.length cb) := by simp [World.cell?, hbw]
        clear hbw
        obtain ⟨s, ok, hL, hok⟩ := HO1.out
        have hcx := hc0
        have HOK := Lib.hid hok
        clear hok
        go_wp2_with fail
        refine (pebble_Legal.calls a Ab cb bl s ok wr (Kd.C_below HCB.out HW.out) hcb hL).mono ?_
        rintro e w5 ⟨rfl, hb5⟩
        have HW5 := Lib.hid (HW.out.trans (hb5.mono HW.out.size))
        clear hb5 hL
        cases ok with
        | false =>
          go_wp2
          go_roundw
          case measure => simp [intOf]
          case rel => exact ⟨1, by omega, by go_num, ⟨HW5.out⟩⟩
        | true =>
          obtain ⟨P, best, hP, hB, hle⟩ := HOK.out rfl
          have HP := Lib.hid hP
          have HBB := Lib.hid hB
          clear hP hB
          go_wp2_with fail
          refine (pebble_Peak.calls k Ab cb bl P w5 (Kd.C_below HCB.out HW5.out) hcb HP.out).mono ?_
          rintro e w6 ⟨rfl, hb6⟩
          have HW6 := Lib.hid (HW5.out.trans (hb6.mono HW5.out.size))
          clear hb6
          go_wp2_with fail
          refine (pebble_Best.calls k a P best true w6 HBB.out).mono ?_
          rintro e w7 ⟨v7, rfl, hv7, hb7⟩
          have HW7 := Lib.hid (HW6.out.trans (hb7.mono HW6.out.size))
          obtain ⟨A7, c7, rfl⟩ := Kd.R_slice hv7
          clear hb7 hv7
          have hle1 : decide ((bl.length : Int) < (best.length : Int)) = false := decide_eq_false (by omega)
          have hle2 : decide (bl.length < best.length) = false := decide_eq_false (by omega)
          go_wp2
          go_roundw
          case measure => simp [intOf]
          case rel => exact ⟨1, by omega, by go_num, ⟨HW7.out⟩⟩
      · have hc1 : wr.cell? ⟨z, 1, none⟩ = some (.slice A2 l2.length c2) := by simp [World.cell?, hbw]
        clear hbw
        obtain ⟨s, ok, hL, hok⟩ := HO2.out
        have hcx := hc1
        have HOK := Lib.hid hok
        clear hok
        go_wp2_with fail
        refine (pebble_Legal.calls a A2 c2 l2 s ok wr (Kd.C_below HC2.out HW.out) hc2 hL).mono ?_
        rintro e w5 ⟨rfl, hb5⟩
        have HW5 := Lib.hid (HW.out.trans (hb5.mono HW.out.size))
        clear hb5 hL
        cases ok with
        | false =>
          go_wp2
          go_roundw
          case measure => simp [intOf]
          case rel => exact ⟨2, by omega, by go_num, ⟨HW5.out⟩⟩
        | true =>
          obtain ⟨P, best, hP, hB, hle⟩ := HOK.out rfl
          have HP := Lib.hid hP
          have HBB := Lib.hid hB
          clear hP hB
          go_wp2_with fail
          refine (pebble_Peak.calls k A2 c2 l2 P w5 (Kd.C_below HC2.out HW5.out) hc2 HP.out).mono ?_
          rintro e w6 ⟨rfl, hb6⟩
          have HW6 := Lib.hid (HW5.out.trans (hb6.mono HW5.out.size))
          clear hb6
          go_wp2_with fail
          refine (pebble_Best.calls k a P best true w6 HBB.out).mono ?_
          rintro e w7 ⟨v7, rfl, hv7, hb7⟩
          have HW7 := Lib.hid (HW6.out.trans (hb7.mono HW6.out.size))
          obtain ⟨A7, c7, rfl⟩ := Kd.R_slice hv7
          clear hb7 hv7
          have hle1 : decide ((l2.length : Int) < (best.length : Int)) = false := decide_eq_false (by omega)
          have hle2 : decide (l2.length < best.length) = false := decide_eq_false (by omega)
          go_wp2
          go_roundw
          case measure => simp [intOf]
          case rel => exact ⟨2, by omega, by go_num, ⟨HW7.out⟩⟩
      · go_wp2
        go_ret
        exact ⟨rfl, HB4.out.trans (HW.out.mono HB4.out.size)⟩
end Go.Proofs.Ytpkamififbhheaa.PAll
