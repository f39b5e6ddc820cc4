/- backstepref10.Diff: the differences of all components, in order, as a new slice. -/
import Derived.Test.YtjphfhmkpknfaaaPart
import Derived.Deep.CutRange
set_option linter.unusedVariables false
set_option linter.unusedSimpArgs false
namespace Go.Proofs.Ytjphfhmkpknfaaa.PAll
open Go.RowKit Go.Proofs.YtjphfhmkpknfaaaW.PrintWords Go.Proofs.YtjphfhmkpknfaaaW.PrintLast Go.Proofs.YtjphfhmkpknfaaaW.PrintMore
attribute [local go_sem] max2_int min2_int max_two min_two max_three min_three max_four min_four

def atR (l : List Int) (i : Int) : Int := if i < (l.length : Int) then rd l i else 0
set_option maxRecDepth 100000 in
theorem at_calls (A : Option Addr) (c : Nat) (l : List Int) (i : Int) (w : World) (h0 : 0 ≤ i) (hr : Kd.C (Kd.int .i64) w A l.length l) :
    Calls Try.prog 37 #[.slice A l.length c, .int .i64 i] w fun e w' => e = .returned (.int .i64 (atR l i)) ∧ w' = w := by
  unfold atR
  by_cases hi : i < (l.length : Int)
  · have hib : decide (i < (l.length : Int)) = true := decide_eq_true hi
    rw [if_pos hi]
    obtain ⟨ad, rfl, hx⟩ := Kd.at_int hr i h0 hi
    have p1 : (0 ≤ i) = True := eq_true h0
    have p2 : (i < (l.length : Int)) = True := eq_true hi
    go_enter Try.func37, Try.ntmps37
    go_wp2
    go_ret
    exact ⟨rfl, rfl⟩
  · have hib : decide (i < (l.length : Int)) = false := decide_eq_false hi
    rw [if_neg hi]
    go_enter Try.func37, Try.ntmps37
    go_wp2
    go_ret
    exact ⟨rfl, rfl⟩
def rlen (cell : Int) (x y : List Int) : List S34 := if (x.length : Int) = (y.length : Int) then [] else [⟨cell, -1, x.length, y.length⟩]
def rone (cell : Int) (x y : List Int) (i : Nat) : List S34 := if atR x i = atR y i then [] else [⟨cell, i, atR x i, atR y i⟩]
def rupto (cell : Int) (x y : List Int) (n : Nat) : List S34 := (List.range n).flatMap (rone cell x y)
def reachF (cell : Int) (x y : List Int) : List S34 := rlen cell x y ++ rupto cell x y (max x.length y.length)
theorem rupto_zero (cell : Int) (x y : List Int) : rupto cell x y 0 = [] := rfl
theorem rupto_succ (cell : Int) (x y : List Int) (n : Nat) : rupto cell x y (n + 1) = rupto cell x y n ++ rone cell x y n := by
  unfold rupto
  rw [List.range_succ, List.flatMap_append]; simp
theorem rone_len (cell : Int) (x y : List Int) (n : Nat) : (rone cell x y n).length ≤ 1 := by unfold rone; split <;> simp
theorem rupto_len (cell : Int) (x y : List Int) : ∀ n, (rupto cell x y n).length ≤ n
  | 0 => by simp [rupto_zero]
  | n + 1 => by
    have := rupto_len cell x y n
    have := rone_len cell x y n
    rw [rupto_succ, List.length_append]; omega
theorem rlen_len (cell : Int) (x y : List Int) : (rlen cell x y).length ≤ 1 := by unfold rlen; split <;> simp
theorem reachF_len {cell : Int} {x y : List Int} (hx : x.length ≤ 5000) (hy : y.length ≤ 5000) : (reachF cell x y).length ≤ 5001 := by
  have h1 := rupto_len cell x y (max x.length y.length)
  have h2 := rlen_len cell x y
  unfold reachF
  rw [List.length_append]; omega
/-- The component of a round. -/
def cellOf (n k : Nat) : Int := if (k : Int) ≥ (n : Int) then (n : Int) - 1 - k else (k : Int)
theorem cellOf_lt (n k : Nat) (hk : k < n + 2) : cellOf n k < (n : Int) ∧ -2 ≤ cellOf n k := by unfold cellOf; split <;> omega
theorem partF_len {xs : List (List Int)} {i o : List Int} (h : rowsIn xs i o) (c : Int) : (partF xs i o c).length ≤ 5000 := by
  unfold partF
  split
  · exact rowAt_len h.2.1 c
  · split
    · exact h.2.2.2
    · rw [List.length_reverse]; exact h.2.2.1
def rcells (xs : List (List Int)) (xi xo : List Int) (ys : List (List Int)) (yi yo : List Int) (k : Nat) : List S34 :=
  (List.range k).flatMap fun i => reachF (cellOf xs.length i) (partF xs xi xo (cellOf xs.length i)) (partF ys yi yo (cellOf xs.length i))
theorem rcells_succ (xs : List (List Int)) (xi xo : List Int) (ys : List (List Int)) (yi yo : List Int) (k : Nat) :
    rcells xs xi xo ys yi yo (k + 1) = rcells xs xi xo ys yi yo k ++ reachF (cellOf xs.length k) (partF xs xi xo (cellOf xs.length k)) (partF ys yi yo (cellOf xs.length k)) := by
  unfold rcells
  rw [List.range_succ, List.flatMap_append]; simp
theorem rcells_len {xs : List (List Int)} {xi xo : List Int} {ys : List (List Int)} {yi yo : List Int} (hx : rowsIn xs xi xo) (hy : rowsIn ys yi yo) : ∀ k, (rcells xs xi xo ys yi yo k).length ≤ k * 5001
  | 0 => by simp [rcells]
  | k + 1 => by
    have := rcells_len hx hy k
    have := reachF_len (cell := cellOf xs.length k) (partF_len hx (cellOf xs.length k)) (partF_len hy (cellOf xs.length k))
    rw [rcells_succ, List.length_append]; omega
def refDiffAll (xs : List (List Int)) (xi xo : List Int) (ys : List (List Int)) (yi yo : List Int) : List S34 :=
  if (xs.length : Int) = (ys.length : Int) then rcells xs xi xo ys yi yo (xs.length + 2) else []
def backstepref10_Diff.f (l0_0 : List (List Int)) (l0_1 l0_2 : List Int) (l1_0 : List (List Int)) (l1_1 l1_2 : List Int) : Option (List S34) :=
  if rowsIn l0_0 l0_1 l0_2 ∧ rowsIn l1_0 l1_1 l1_2 then some (refDiffAll l0_0 l0_1 l0_2 l1_0 l1_1 l1_2) else none
theorem infoI34 : (Try.prog.info? 34).map (fun i => (i.zero, i.size, i.bytes)) = some (some (.agg #[(.int .i64 0), (.int .i64 0), (.int .i64 0), (.int .i64 0)]), 4, 32) := by kernel_rfl
theorem seq_len (cell : Int) (x y : List Int) (n : Nat) (hn : n ≤ max x.length y.length) (hx : x.length ≤ 5000) (hy : y.length ≤ 5000) (acc : List S34) : (acc ++ rlen cell x y ++ rupto cell x y n).length ≤ acc.length + 5001 := by
  have h1 := rupto_len cell x y n
  have h2 := rlen_len cell x y
  rw [List.length_append, List.length_append]; omega

set_option maxRecDepth 100000 in
set_option maxHeartbeats 4000000 in
theorem backstepref10_Diff.calls (A0_0 : Option Addr) (c0_0 : Nat) (l0_0 : List (List Int)) (A0_1 : Option Addr) (c0_1 : Nat) (l0_1 : List Int) (A0_2 : Option Addr) (c0_2 : Nat) (l0_2 : List Int) (A1_0 : Option Addr) (c1_0 : Nat) (l1_0 : List (List Int)) (A1_1 : Option Addr) (c1_1 : Nat) (l1_1 : List Int) (A1_2 : Option Addr) (c1_2 : Nat) (l1_2 : List Int) (r : List S34) (w : World)
    (hr0_0 : Kd.C (Kd.slice 3 (Kd.int .i64)) w A0_0 l0_0.length l0_0) (hc0_0 : l0_0.length ≤ c0_0) (hr0_1 : Kd.C (Kd.int .i64) w A0_1 l0_1.length l0_1) (hc0_1 : l0_1.length ≤ c0_1) (hr0_2 : Kd.C (Kd.int .i64) w A0_2 l0_2.length l0_2) (hc0_2 : l0_2.length ≤ c0_2)
    (hr1_0 : Kd.C (Kd.slice 3 (Kd.int .i64)) w A1_0 l1_0.length l1_0) (hc1_0 : l1_0.length ≤ c1_0) (hr1_1 : Kd.C (Kd.int .i64) w A1_1 l1_1.length l1_1) (hc1_1 : l1_1.length ≤ c1_1) (hr1_2 : Kd.C (Kd.int .i64) w A1_2 l1_2.length l1_2) (hc1_2 : l1_2.length ≤ c1_2)
    (h : backstepref10_Diff.f l0_0 l0_1 l0_2 l1_0 l1_1 l1_2 = some r) :
    Calls Try.prog 17 #[.agg #[.slice A0_0 l0_0.length c0_0, .slice A0_1 l0_1.length c0_1, .slice A0_2 l0_2.length c0_2], .agg #[.slice A1_0 l1_0.length c1_0, .slice A1_1 l1_1.length c1_1, .slice A1_2 l1_2.length c1_2]] w fun e w' => ∃ v0_ : Value, e = .returned (v0_) ∧ Kd.R k34 34 w' w.heap.size (fun _ => True) v0_ r ∧ Below w.heap.size w w' := by
  unfold backstepref10_Diff.f at h
  have hg : rowsIn l0_0 l0_1 l0_2 ∧ rowsIn l1_0 l1_1 l1_2 := by
    by_cases hg : rowsIn l0_0 l0_1 l0_2 ∧ rowsIn l1_0 l1_1 l1_2
    · exact hg
    · rw [if_neg hg] at h; exact absurd h (by simp)
  rw [if_pos hg] at h
  obtain ⟨hin0, hin1⟩ := hg
  have HIN0 := Lib.hid hin0
  have HIN1 := Lib.hid hin1
  obtain ⟨hn0, _, hn2, hn3⟩ := hin0
  obtain ⟨hm0, _, hm2, hm3⟩ := hin1
  have h := Option.some.inj h
  have HR00 := Lib.hid hr0_0
  have HR01 := Lib.hid hr0_1
  have HR02 := Lib.hid hr0_2
  have HR10 := Lib.hid hr1_0
  have HR11 := Lib.hid hr1_1
  have HR12 := Lib.hid hr1_2
  clear hr0_0 hr0_1 hr0_2 hr1_0 hr1_1 hr1_2 hc0_0 hc0_1 hc1_0 hc1_1
  by_cases hle : (l0_0.length : Int) = (l1_0.length : Int)
  · have hle1 : decide ((l0_0.length : Int) = (l1_0.length : Int)) = true := decide_eq_true hle
    have hle2 : ((l0_0.length : Int) != (l1_0.length : Int)) = false := by simpa using hle
    have hleb : ((l0_0.length : Int) == (l1_0.length : Int)) = true := by simpa using hle
    have hr : r = rcells l0_0 l0_1 l0_2 l1_0 l1_1 l1_2 (l0_0.length + 2) := by rw [← h]; unfold refDiffAll; rw [if_pos hle]
    have HR := Lib.hid hr
    have HLE := Lib.hid hle
    clear h hr hle
    have hw2 : wrap64 ((l0_0.length : Int) + 2) = (l0_0.length : Int) + 2 := wrap64_of' (by omega) (by omega)
    have hw1 : wrap64 ((l0_0.length : Int) - 1) = (l0_0.length : Int) - 1 := wrap64_of' (by omega) (by omega)
    go_enter Try.func17, Try.ntmps17
    go_wp2
    obtain ⟨w4, hw4⟩ : ∃ w4, w4 = (w.alloc (.cells #[.slice A0_0 l0_0.length c0_0, .slice A0_1 l0_1.length c0_1, .slice A0_2 l0_2.length c0_2] 25)).alloc (.cells #[.slice A1_0 l1_0.length c1_0, .slice A1_1 l1_1.length c1_1, .slice A1_2 l1_2.length c1_2] 25) := ⟨_, rfl⟩
    rw [← hw4]
    have hba : BoxA w4 w.heap.size (.slice A0_0 l0_0.length c0_0) (.slice A0_1 l0_1.length c0_1) (.slice A0_2 l0_2.length c0_2) := by rw [hw4]; exact (BoxA.new w _ _ _).alloc _
    have hbb : BoxA w4 (w.heap.size + 1) (.slice A1_0 l1_0.length c1_0) (.slice A1_1 l1_1.length c1_1) (.slice A1_2 l1_2.length c1_2) := by
      rw [hw4]
      have := BoxA.new (w.alloc (.cells #[.slice A0_0 l0_0.length c0_0, .slice A0_1 l0_1.length c0_1, .slice A0_2 l0_2.length c0_2] 25)) (.slice A1_0 l1_0.length c1_0) (.slice A1_1 l1_1.length c1_1) (.slice A1_2 l1_2.length c1_2)
      rw [World.size_alloc] at this
      exact this
    have hbw : Below w.heap.size w w4 := by rw [hw4]; exact below_alloc (below_alloc (Below.refl _ _) _) _
    have HA := Lib.hid hba
    have HA2 := Lib.hid hbb
    have HB := Lib.hid hbw
    clear hw4 hba hbb hbw
    go_loopg [5, 6] (l0_0.length + 2) (fun kq v5 v6 wr => ∃ (k : Nat), kq + k = l0_0.length + 2 ∧ v6 = .int .i64 k ∧ Aside0 (Kd.R k34 34 wr (w.heap.size + 2) (fun _ => True) v5 (rcells l0_0 l0_1 l0_2 l1_0 l1_1 l1_2 k)) ∧
        Aside0 (BoxA wr w.heap.size (.slice A0_0 l0_0.length c0_0) (.slice A0_1 l0_1.length c0_1) (.slice A0_2 l0_2.length c0_2)) ∧ Aside0 (BoxA wr (w.heap.size + 1) (.slice A1_0 l1_0.length c1_0) (.slice A1_1 l1_1.length c1_1) (.slice A1_2 l1_2.length c1_2)) ∧ Aside0 (Below w.heap.size w wr))
    case atStart => exact ⟨0, rfl, rfl, ⟨Kd.R_nil _ _ _ _ _⟩, ⟨HA.out⟩, ⟨HA2.out⟩, ⟨HB.out⟩⟩
    case round =>
      clear HA HA2 HB
      obtain ⟨k, hk, rfl, HV, HA, HA2, HB⟩ := hrel
      have hac := HA.out.c0
      by_cases hi : k < l0_0.length + 2
      · have hib : decide ((k : Int) < (l0_0.length : Int) + 2) = true := decide_eq_true (by omega)
        have hce := cellOf_lt l0_0.length k hi
        obtain ⟨cell, hcell⟩ : ∃ cell : Int, cell = cellOf l0_0.length k := ⟨_, rfl⟩
        rw [← hcell] at hce
        have HCELL := Lib.hid hcell
        clear hcell
        go_upto_if 31 with (fail)
        go_cut [7] from 18 to 88 (fun s7 wx => s7 = .int .i64 cell ∧ wx = wr)
        case first =>
          by_cases hk2 : (k : Int) ≥ (l0_0.length : Int)
          · have hk2b : decide ((l0_0.length : Int) ≤ (k : Int)) = true := decide_eq_true hk2
            have HCE := Lib.hid (show cell = (l0_0.length : Int) - 1 - k from by rw [HCELL.out]; unfold cellOf; rw [if_pos hk2])
            go_wp2
            go_meet
            case rel => exact ⟨by rw [HCE.out], rfl⟩
          · have hk2b : decide ((l0_0.length : Int) ≤ (k : Int)) = false := decide_eq_false hk2
            have HCE := Lib.hid (show cell = (k : Int) from by rw [HCELL.out]; unfold cellOf; rw [if_neg hk2])
            go_wp2
            go_meet
            case rel => exact ⟨by rw [HCE.out], rfl⟩
        case rest =>
          obtain ⟨rfl, hwc⟩ := hcut
          obtain rfl := hwc.symm
          clear hac
          obtain ⟨X, hX⟩ : ∃ X, X = partF l0_0 l0_1 l0_2 cell := ⟨_, rfl⟩
          obtain ⟨Y, hY⟩ : ∃ Y, Y = partF l1_0 l1_1 l1_2 cell := ⟨_, rfl⟩
          have hXl : X.length ≤ 5000 := by rw [hX]; exact partF_len HIN0.out cell
          have hYl : Y.length ≤ 5000 := by rw [hY]; exact partF_len HIN1.out cell
          have hcl := rcells_len HIN0.out HIN1.out k
          obtain ⟨acc, hacc⟩ : ∃ acc, acc = rcells l0_0 l0_1 l0_2 l1_0 l1_1 l1_2 k := ⟨_, rfl⟩
          rw [← hacc] at hcl HV
          have HX := Lib.hid hX
          have HY := Lib.hid hY
          have HACC := Lib.hid hacc
          clear hX hY hacc
          go_upto_region 10 with (fail)
          go_cut [8, 9] from 18 to 88 (fun s8 s9 wx => ∃ Ax cx Ay cy, s8 = .slice Ax X.length cx ∧ s9 = .slice Ay Y.length cy ∧ Aside0 (Steady w.heap.size wx Ax X) ∧ Aside0 (Steady w.heap.size wx Ay Y) ∧ Aside0 (Kd.R k34 34 wx (w.heap.size + 2) (fun _ => True) u5 acc) ∧ Aside0 (BoxA wx w.heap.size (.slice A0_0 l0_0.length c0_0) (.slice A0_1 l0_1.length c0_1) (.slice A0_2 l0_2.length c0_2)) ∧ Aside0 (BoxA wx (w.heap.size + 1) (.slice A1_0 l1_0.length c1_0) (.slice A1_1 l1_1.length c1_1) (.slice A1_2 l1_2.length c1_2)) ∧ Aside0 (Below w.heap.size w wx))
          case first =>
            have hmix : Try.prog.follows .mixedOrders = true := by kernel_rfl
            refine wp_region_any hmix ?_
            change wpAny _ _ _ _ _ _ _ (World.drew _)
            obtain ⟨wd, hwd⟩ : ∃ wd, wd = wr.drew := ⟨_, rfl⟩
            have nHV : Kd.R k34 34 wd (w.heap.size + 2) (fun _ => True) u5 acc := by rw [hwd]; exact Kd.R_drew HV.out
            have nHA : BoxA wd w.heap.size (.slice A0_0 l0_0.length c0_0) (.slice A0_1 l0_1.length c0_1) (.slice A0_2 l0_2.length c0_2) := by rw [hwd]; exact HA.out
            have nHA2 : BoxA wd (w.heap.size + 1) (.slice A1_0 l1_0.length c1_0) (.slice A1_1 l1_1.length c1_1) (.slice A1_2 l1_2.length c1_2) := by rw [hwd]; exact HA2.out
            have nHB : Below w.heap.size w wd := by rw [hwd]; exact below_drew1 HB.out
            rw [← hwd]
            clear HV HA HA2 HB hwd
            have HV := Lib.hid nHV
            have HA := Lib.hid nHA
            have HA2 := Lib.hid nHA2
            have HB := Lib.hid nHB
            have hac0 := nHA.c0
            have hac1 := nHA.c1
            have hac2 := nHA.c2
            have hbc0 := nHA2.c0
            have hbc1 := nHA2.c1
            have hbc2 := nHA2.c2
            have HXX := HX.out
            have hcy : cell < (l1_0.length : Int) := by have := HLE.out; omega
            clear nHV nHA nHA2 nHB HXX
            refine wpAny_take (i := 1) (v := ?_) rfl (by kernel_rfl) (by kernel_rfl) (by kernel_rfl) (fun _ _ _ h => h) (Or.inl ⟨by rfl, ?_⟩) ?_
            case refine_2 => intro w'; go_simp; try rfl
            refine wpAny_take (i := 4) (v := ?_) rfl (by kernel_rfl) (by kernel_rfl) (by kernel_rfl) (fun _ _ _ h => h) (Or.inl ⟨by rfl, ?_⟩) ?_
            case refine_2 => intro w'; go_simp; try rfl
            refine wpAny_ready (rs := [0, 3]) (by kernel_rfl) (by simp) (AllReady.cons rfl (fun K hK => ?o0_1) (AllReady.cons rfl (fun K hK => ?o3_1) (AllReady.nil)))
            case o0_1 =>
              go_simp
              refine hK _ _ ?_
              clear hK K
              refine wpAny_ready (rs := [2, 3]) (by kernel_rfl) (by simp) (AllReady.cons rfl (fun K hK => ?o2_2) (AllReady.cons rfl (fun K hK => ?o3_2) (AllReady.nil)))
              case o2_2 =>
                go_simp
                refine (part_calls cell A0_0 c0_0 l0_0 A0_1 c0_1 l0_1 A0_2 c0_2 l0_2 w wd HB.out HR00.out HR01.out HR02.out hc0_2 (by omega) (by omega)).mono ?_
                rintro e w1 ⟨Ax, cx, rfl, hxl, hsx, hb1⟩
                rw [← HX.out] at hsx ⊢
                have nHV : Kd.R k34 34 w1 (w.heap.size + 2) (fun _ => True) u5 acc := Kd.R_below HV.out hb1
                have nHA := HA.out.below hb1 HA.out.lt
                have nHA2 := HA2.out.below hb1 HA2.out.lt
                have nHB := HB.out.trans (hb1.mono HB.out.size)
                clear HV HA HA2 HB hac0 hac1 hac2 hbc0 hbc1 hbc2
                have HV := Lib.hid nHV
                have HA := Lib.hid nHA
                have HA2 := Lib.hid nHA2
                have HB := Lib.hid nHB
                have hbc0 := nHA2.c0
                have hbc1 := nHA2.c1
                have hbc2 := nHA2.c2
                have HSX := Lib.hid hsx
                clear nHV nHA nHA2 nHB hsx hb1 hxl
                refine hK _ _ ?_
                clear hK K
                refine wpAny_ready (rs := [3]) (by kernel_rfl) (by simp) (AllReady.cons rfl (fun K hK => ?o3_3) (AllReady.nil))
                case o3_3 =>
                  go_simp
                  refine hK _ _ ?_
                  clear hK K
                  refine wpAny_ready (rs := [5]) (by kernel_rfl) (by simp) (AllReady.cons rfl (fun K hK => ?o5_4) (AllReady.nil))
                  case o5_4 =>
                    go_simp
                    refine (part_calls cell A1_0 c1_0 l1_0 A1_1 c1_1 l1_1 A1_2 c1_2 l1_2 w w1 HB.out HR10.out HR11.out HR12.out hc1_2 hcy (by omega)).mono ?_
                    rintro e w2 ⟨Ay, cy, rfl, hyl, hsy, hb2⟩
                    rw [← HY.out] at hsy ⊢
                    have nHV : Kd.R k34 34 w2 (w.heap.size + 2) (fun _ => True) u5 acc := Kd.R_below HV.out hb2
                    have nHA := HA.out.below hb2 HA.out.lt
                    have nHA2 := HA2.out.below hb2 HA2.out.lt
                    have nHB := HB.out.trans (hb2.mono HB.out.size)
                    have nHSX := HSX.out.below hb2
                    clear HV HA HA2 HB HSX hbc0 hbc1 hbc2
                    have HV := Lib.hid nHV
                    have HA := Lib.hid nHA
                    have HA2 := Lib.hid nHA2
                    have HB := Lib.hid nHB
                    have HSX := Lib.hid nHSX
                    have HSY := Lib.hid hsy
                    clear nHV nHA nHA2 nHB hsy nHSX hb2 hyl
                    refine hK _ _ ?_
                    clear hK K
                    refine wpAny_ready (rs := [6]) (by kernel_rfl) (by simp) (AllReady.cons rfl (fun K hK => ?o6_5) (AllReady.nil))
                    case o6_5 =>
                      go_simp
                      refine hK _ _ ?_
                      clear hK K
                      refine wpAny_ready (rs := [7]) (by kernel_rfl) (by simp) (AllReady.cons rfl (fun K hK => ?o7_6) (AllReady.nil))
                      case o7_6 =>
                        go_simp
                        refine hK _ _ ?_
                        clear hK K
                        refine wpAny_done (by kernel_rfl) ?_ _
                        go_wp2_with fail
                        go_meet
                        case rel => exact ⟨Ax, cx, Ay, cy, rfl, rfl, ⟨HSX.out⟩, ⟨HSY.out⟩, ⟨HV.out⟩, ⟨HA.out⟩, ⟨HA2.out⟩, ⟨HB.out⟩⟩
              case o3_2 =>
                go_simp
                refine hK _ _ ?_
                clear hK K
                refine wpAny_ready (rs := [2]) (by kernel_rfl) (by simp) (AllReady.cons rfl (fun K hK => ?o2_7) (AllReady.nil))
                case o2_7 =>
                  go_simp
                  refine (part_calls cell A0_0 c0_0 l0_0 A0_1 c0_1 l0_1 A0_2 c0_2 l0_2 w wd HB.out HR00.out HR01.out HR02.out hc0_2 (by omega) (by omega)).mono ?_
                  rintro e w1 ⟨Ax, cx, rfl, hxl, hsx, hb1⟩
                  rw [← HX.out] at hsx ⊢
                  have nHV : Kd.R k34 34 w1 (w.heap.size + 2) (fun _ => True) u5 acc := Kd.R_below HV.out hb1
                  have nHA := HA.out.below hb1 HA.out.lt
                  have nHA2 := HA2.out.below hb1 HA2.out.lt
                  have nHB := HB.out.trans (hb1.mono HB.out.size)
                  clear HV HA HA2 HB hac0 hac1 hac2 hbc0 hbc1 hbc2
                  have HV := Lib.hid nHV
                  have HA := Lib.hid nHA
                  have HA2 := Lib.hid nHA2
                  have HB := Lib.hid nHB
                  have hbc0 := nHA2.c0
                  have hbc1 := nHA2.c1
                  have hbc2 := nHA2.c2
                  have HSX := Lib.hid hsx
                  clear nHV nHA nHA2 nHB hsx hb1 hxl
                  refine hK _ _ ?_
                  clear hK K
                  refine wpAny_ready (rs := [5]) (by kernel_rfl) (by simp) (AllReady.cons rfl (fun K hK => ?o5_8) (AllReady.nil))
                  case o5_8 =>
                    go_simp
                    refine (part_calls cell A1_0 c1_0 l1_0 A1_1 c1_1 l1_1 A1_2 c1_2 l1_2 w w1 HB.out HR10.out HR11.out HR12.out hc1_2 hcy (by omega)).mono ?_
                    rintro e w2 ⟨Ay, cy, rfl, hyl, hsy, hb2⟩
                    rw [← HY.out] at hsy ⊢
                    have nHV : Kd.R k34 34 w2 (w.heap.size + 2) (fun _ => True) u5 acc := Kd.R_below HV.out hb2
                    have nHA := HA.out.below hb2 HA.out.lt
                    have nHA2 := HA2.out.below hb2 HA2.out.lt
                    have nHB := HB.out.trans (hb2.mono HB.out.size)
                    have nHSX := HSX.out.below hb2
                    clear HV HA HA2 HB HSX hbc0 hbc1 hbc2
                    have HV := Lib.hid nHV
                    have HA := Lib.hid nHA
                    have HA2 := Lib.hid nHA2
                    have HB := Lib.hid nHB
                    have HSX := Lib.hid nHSX
                    have HSY := Lib.hid hsy
                    clear nHV nHA nHA2 nHB hsy nHSX hb2 hyl
                    refine hK _ _ ?_
                    clear hK K
                    refine wpAny_ready (rs := [6]) (by kernel_rfl) (by simp) (AllReady.cons rfl (fun K hK => ?o6_9) (AllReady.nil))
                    case o6_9 =>
                      go_simp
                      refine hK _ _ ?_
                      clear hK K
                      refine wpAny_ready (rs := [7]) (by kernel_rfl) (by simp) (AllReady.cons rfl (fun K hK => ?o7_10) (AllReady.nil))
                      case o7_10 =>
                        go_simp
                        refine hK _ _ ?_
                        clear hK K
                        refine wpAny_done (by kernel_rfl) ?_ _
                        go_wp2_with fail
                        go_meet
                        case rel => exact ⟨Ax, cx, Ay, cy, rfl, rfl, ⟨HSX.out⟩, ⟨HSY.out⟩, ⟨HV.out⟩, ⟨HA.out⟩, ⟨HA2.out⟩, ⟨HB.out⟩⟩
            case o3_1 =>
              go_simp
              refine hK _ _ ?_
              clear hK K
              refine wpAny_ready (rs := [0]) (by kernel_rfl) (by simp) (AllReady.cons rfl (fun K hK => ?o0_11) (AllReady.nil))
              case o0_11 =>
                go_simp
                refine hK _ _ ?_
                clear hK K
                refine wpAny_ready (rs := [2]) (by kernel_rfl) (by simp) (AllReady.cons rfl (fun K hK => ?o2_12) (AllReady.nil))
                case o2_12 =>
                  go_simp
                  refine (part_calls cell A0_0 c0_0 l0_0 A0_1 c0_1 l0_1 A0_2 c0_2 l0_2 w wd HB.out HR00.out HR01.out HR02.out hc0_2 (by omega) (by omega)).mono ?_
                  rintro e w1 ⟨Ax, cx, rfl, hxl, hsx, hb1⟩
                  rw [← HX.out] at hsx ⊢
                  have nHV : Kd.R k34 34 w1 (w.heap.size + 2) (fun _ => True) u5 acc := Kd.R_below HV.out hb1
                  have nHA := HA.out.below hb1 HA.out.lt
                  have nHA2 := HA2.out.below hb1 HA2.out.lt
                  have nHB := HB.out.trans (hb1.mono HB.out.size)
                  clear HV HA HA2 HB hac0 hac1 hac2 hbc0 hbc1 hbc2
                  have HV := Lib.hid nHV
                  have HA := Lib.hid nHA
                  have HA2 := Lib.hid nHA2
                  have HB := Lib.hid nHB
                  have hbc0 := nHA2.c0
                  have hbc1 := nHA2.c1
                  have hbc2 := nHA2.c2
                  have HSX := Lib.hid hsx
                  clear nHV nHA nHA2 nHB hsx hb1 hxl
                  refine hK _ _ ?_
                  clear hK K
                  refine wpAny_ready (rs := [5]) (by kernel_rfl) (by simp) (AllReady.cons rfl (fun K hK => ?o5_13) (AllReady.nil))
                  case o5_13 =>
                    go_simp
                    refine (part_calls cell A1_0 c1_0 l1_0 A1_1 c1_1 l1_1 A1_2 c1_2 l1_2 w w1 HB.out HR10.out HR11.out HR12.out hc1_2 hcy (by omega)).mono ?_
                    rintro e w2 ⟨Ay, cy, rfl, hyl, hsy, hb2⟩
                    rw [← HY.out] at hsy ⊢
                    have nHV : Kd.R k34 34 w2 (w.heap.size + 2) (fun _ => True) u5 acc := Kd.R_below HV.out hb2
                    have nHA := HA.out.below hb2 HA.out.lt
                    have nHA2 := HA2.out.below hb2 HA2.out.lt
                    have nHB := HB.out.trans (hb2.mono HB.out.size)
                    have nHSX := HSX.out.below hb2
                    clear HV HA HA2 HB HSX hbc0 hbc1 hbc2
                    have HV := Lib.hid nHV
                    have HA := Lib.hid nHA
                    have HA2 := Lib.hid nHA2
                    have HB := Lib.hid nHB
                    have HSX := Lib.hid nHSX
                    have HSY := Lib.hid hsy
                    clear nHV nHA nHA2 nHB hsy nHSX hb2 hyl
                    refine hK _ _ ?_
                    clear hK K
                    refine wpAny_ready (rs := [6]) (by kernel_rfl) (by simp) (AllReady.cons rfl (fun K hK => ?o6_14) (AllReady.nil))
                    case o6_14 =>
                      go_simp
                      refine hK _ _ ?_
                      clear hK K
                      refine wpAny_ready (rs := [7]) (by kernel_rfl) (by simp) (AllReady.cons rfl (fun K hK => ?o7_15) (AllReady.nil))
                      case o7_15 =>
                        go_simp
                        refine hK _ _ ?_
                        clear hK K
                        refine wpAny_done (by kernel_rfl) ?_ _
                        go_wp2_with fail
                        go_meet
                        case rel => exact ⟨Ax, cx, Ay, cy, rfl, rfl, ⟨HSX.out⟩, ⟨HSY.out⟩, ⟨HV.out⟩, ⟨HA.out⟩, ⟨HA2.out⟩, ⟨HB.out⟩⟩
          case rest =>
            clear HV HA HA2 HB
            obtain ⟨Ax, cx, Ay, cy, rfl, rfl, HSX, HSY, HV, HA, HA2, HB⟩ := hcut
            go_upto_if 48 with (fail)
            go_cut [5] from 18 to 88 (fun s5 wx => Aside0 (Kd.R k34 34 wx (w.heap.size + 2) (fun _ => True) s5 (acc ++ rlen cell X Y)) ∧ Aside0 (Steady w.heap.size wx Ax X) ∧ Aside0 (Steady w.heap.size wx Ay Y) ∧ Aside0 (BoxA wx w.heap.size (.slice A0_0 l0_0.length c0_0) (.slice A0_1 l0_1.length c0_1) (.slice A0_2 l0_2.length c0_2)) ∧ Aside0 (BoxA wx (w.heap.size + 1) (.slice A1_0 l1_0.length c1_0) (.slice A1_1 l1_1.length c1_1) (.slice A1_2 l1_2.length c1_2)) ∧ Aside0 (Below w.heap.size w wx))
            case first =>
              by_cases hxy : (X.length : Int) = (Y.length : Int)
              · have hxyb : ((X.length : Int) == (Y.length : Int)) = true := by simpa using hxy
                have hxy1 : decide ((X.length : Int) = (Y.length : Int)) = true := decide_eq_true hxy
                have hxy2 : ((X.length : Int) != (Y.length : Int)) = false := by simpa using hxy
                have HRL := Lib.hid (show acc = acc ++ rlen cell X Y from by unfold rlen; rw [if_pos hxy, List.append_nil])
                clear hxy
                go_wp2
                go_meet
                case rel => exact ⟨⟨by rw [← HRL.out]; exact HV.out⟩, ⟨HSX.out⟩, ⟨HSY.out⟩, ⟨HA.out⟩, ⟨HA2.out⟩, ⟨HB.out⟩⟩
              · have hxyb : ((X.length : Int) == (Y.length : Int)) = false := by simpa using hxy
                have hxy1 : decide ((X.length : Int) = (Y.length : Int)) = false := decide_eq_false hxy
                have hxy2 : ((X.length : Int) != (Y.length : Int)) = true := by simpa using hxy
                have HRL := Lib.hid (show acc ++ [(⟨cell, -1, X.length, Y.length⟩ : S34)] = acc ++ rlen cell X Y from by unfold rlen; rw [if_neg hxy])
                have hz2 := HA2.out.lt
                clear hxy
                go_wp2_with ((with_reducible refine gate_builtin (b := .append) (xs := #[.tmp 49, .tmp 56]) rfl ?_); at_builtin; refine Kd.R_append k34 (w0 := wc) (w.heap.size + 2) rfl (.tmp 49) (.tmp 56) 28 34 (.agg #[(.int .i64 0), (.int .i64 0), (.int .i64 0), (.int .i64 0)]) 32 rfl Try.underlying28 infoI34 rfl (by decide) (by omega) u5 acc ⟨cell, -1, X.length, Y.length⟩ [.int .i64 cell, .int .i64 (-1), .int .i64 X.length, .int .i64 Y.length] (fun _ => True) (fun _ => False) rfl rfl (k34_mkM _ _ _ _) (fun _ h => h.elim) (fun _ _ => trivial) HV.out (Below.refl _ _) (by omega) (by omega) ?_; intro v2 w2 ho hb2 hg hat)
                go_meet
                case rel => exact ⟨⟨by rw [← HRL.out]; exact ho⟩, ⟨HSX.out.grown hg HV.out (by decide) (by omega)⟩, ⟨HSY.out.grown hg HV.out (by decide) (by omega)⟩, ⟨HA.out.kept hg (boxA_ne HV.out HA.out (by decide))⟩, ⟨HA2.out.kept hg (boxA_ne HV.out HA2.out (by decide))⟩, ⟨HB.out.trans (hb2.mono (by omega))⟩⟩
            case rest =>
              clear HV HSX HSY HA HA2 HB
              obtain ⟨HV, HSX, HSY, HA, HA2, HB⟩ := hcut
              go_wp2_with (fail)
              go_loopg [5, 10] (max X.length Y.length) (fun kq v5 v10 wq => ∃ i : Nat, kq + i = max X.length Y.length ∧ v10 = .int .i64 i ∧ Aside0 (Kd.R k34 34 wq (w.heap.size + 2) (fun _ => True) v5 (acc ++ rlen cell X Y ++ rupto cell X Y i)) ∧ Aside0 (Steady w.heap.size wq Ax X) ∧ Aside0 (Steady w.heap.size wq Ay Y) ∧ Aside0 (BoxA wq w.heap.size (.slice A0_0 l0_0.length c0_0) (.slice A0_1 l0_1.length c0_1) (.slice A0_2 l0_2.length c0_2)) ∧ Aside0 (BoxA wq (w.heap.size + 1) (.slice A1_0 l1_0.length c1_0) (.slice A1_1 l1_1.length c1_1) (.slice A1_2 l1_2.length c1_2)) ∧ Aside0 (Below w.heap.size w wq))
              case atStart => exact ⟨0, rfl, rfl, ⟨by rw [rupto_zero, List.append_nil]; exact HV.out⟩, ⟨HSX.out⟩, ⟨HSY.out⟩, ⟨HA.out⟩, ⟨HA2.out⟩, ⟨HB.out⟩⟩
              case round =>
                clear HV HSX HSY HA HA2 HB
                obtain ⟨i, hik, rfl, HV, HSX, HSY, HA, HA2, HB⟩ := hrel
                have hz2 := HA2.out.lt
                have hsq := seq_len cell X Y i (by omega) hXl hYl acc
                obtain ⟨acc2, hacc2⟩ : ∃ acc2, acc2 = acc ++ rlen cell X Y ++ rupto cell X Y i := ⟨_, rfl⟩
                rw [← hacc2] at hsq HV
                have HACC2 := Lib.hid hacc2
                clear hacc2
                by_cases h1 : (i : Int) < (X.length : Int)
                · have h1b : decide ((i : Int) < (X.length : Int)) = true := decide_eq_true h1
                  have h1n : i < X.length := by omega
                  have h1m : ¬ X.length ≤ i := by omega
                  have h1d : decide (i < X.length) = true := decide_eq_true h1n
                  have hmx : i < max X.length Y.length := by omega
                  clear h1
                  obtain ⟨p, hp⟩ : ∃ p, p = atR X (i : Int) := ⟨_, rfl⟩
                  obtain ⟨q, hq⟩ : ∃ q, q = atR Y (i : Int) := ⟨_, rfl⟩
                  have HP := Lib.hid hp
                  have HQ := Lib.hid hq
                  clear hp hq
                  by_cases he : p = q
                  · have heb : (p == q) = true := by simpa using he
                    have he1 : decide (p = q) = true := decide_eq_true he
                    have he2 : (p != q) = false := by simpa using he
                    have HRO := Lib.hid (show acc2 = acc ++ rlen cell X Y ++ rupto cell X Y (i + 1) from by rw [rupto_succ, HACC2.out]; unfold rone; rw [← HP.out, ← HQ.out, if_pos he, List.append_nil])
                    clear he
                    go_wp2_with (fail)
                    refine (at_calls Ax cx X i wr (by omega) HSX.out.1).mono ?_
                    rintro e w' ⟨rfl, hw'⟩
                    obtain rfl := hw'.symm
                    rw [← HP.out]
                    clear hw'
                    go_wp2_with (fail)
                    refine (at_calls Ay cy Y i wr (by omega) HSY.out.1).mono ?_
                    rintro e w' ⟨rfl, hw'⟩
                    obtain rfl := hw'.symm
                    rw [← HQ.out]
                    clear hw'
                    go_wp2_with (fail)
                    go_roundg (max X.length Y.length - (i + 1))
                    case measure => omega
                    case rel => exact ⟨i + 1, by omega, by go_num, ⟨by rw [← HRO.out]; exact HV.out⟩, ⟨HSX.out⟩, ⟨HSY.out⟩, ⟨HA.out⟩, ⟨HA2.out⟩, ⟨HB.out⟩⟩
                  · have heb : (p == q) = false := by simpa using he
                    have he1 : decide (p = q) = false := decide_eq_false he
                    have he2 : (p != q) = true := by simpa using he
                    have HRO := Lib.hid (show acc2 ++ [(⟨cell, i, p, q⟩ : S34)] = acc ++ rlen cell X Y ++ rupto cell X Y (i + 1) from by rw [rupto_succ, HACC2.out]; unfold rone; rw [← HP.out, ← HQ.out, if_neg he, List.append_assoc])
                    clear he
                    go_wp2_with (fail)
                    refine (at_calls Ax cx X i wr (by omega) HSX.out.1).mono ?_
                    rintro e w' ⟨rfl, hw'⟩
                    obtain rfl := hw'.symm
                    rw [← HP.out]
                    clear hw'
                    go_wp2_with (fail)
                    refine (at_calls Ay cy Y i wr (by omega) HSY.out.1).mono ?_
                    rintro e w' ⟨rfl, hw'⟩
                    obtain rfl := hw'.symm
                    rw [← HQ.out]
                    clear hw'
                    go_wp2_with (fail)
                    refine (at_calls Ax cx X i wr (by omega) HSX.out.1).mono ?_
                    rintro e w' ⟨rfl, hw'⟩
                    obtain rfl := hw'.symm
                    rw [← HP.out]
                    clear hw'
                    go_wp2_with (fail)
                    refine (at_calls Ay cy Y i wr (by omega) HSY.out.1).mono ?_
                    rintro e w' ⟨rfl, hw'⟩
                    obtain rfl := hw'.symm
                    rw [← HQ.out]
                    clear hw'
                    go_wp2_with ((with_reducible refine gate_builtin (b := .append) (xs := #[.tmp 77, .tmp 87]) rfl ?_); at_builtin; refine Kd.R_append k34 (w0 := wr) (w.heap.size + 2) rfl (.tmp 77) (.tmp 87) 28 34 (.agg #[(.int .i64 0), (.int .i64 0), (.int .i64 0), (.int .i64 0)]) 32 rfl Try.underlying28 infoI34 rfl (by decide) (by omega) u5 acc2 ⟨cell, i, p, q⟩ [.int .i64 cell, .int .i64 i, .int .i64 p, .int .i64 q] (fun _ => True) (fun _ => False) rfl rfl (k34_mkM _ _ _ _) (fun _ h => h.elim) (fun _ _ => trivial) HV.out (Below.refl _ _) (by omega) (by omega) ?_; intro v2 w2 ho hb2 hg hat)
                    go_roundg (max X.length Y.length - (i + 1))
                    case measure => omega
                    case rel => exact ⟨i + 1, by omega, by go_num, ⟨by rw [← HRO.out]; exact ho⟩, ⟨HSX.out.grown hg HV.out (by decide) (by omega)⟩, ⟨HSY.out.grown hg HV.out (by decide) (by omega)⟩, ⟨HA.out.kept hg (boxA_ne HV.out HA.out (by decide))⟩, ⟨HA2.out.kept hg (boxA_ne HV.out HA2.out (by decide))⟩, ⟨HB.out.trans (hb2.mono (by omega))⟩⟩
                · have h1b : decide ((i : Int) < (X.length : Int)) = false := decide_eq_false h1
                  have h1n : ¬ i < X.length := by omega
                  have h1m : X.length ≤ i := by omega
                  have h1d : decide (i < X.length) = false := decide_eq_false h1n
                  by_cases h2 : (i : Int) < (Y.length : Int)
                  · have h2b : decide ((i : Int) < (Y.length : Int)) = true := decide_eq_true h2
                    have h2n : i < Y.length := by omega
                    have h2m : ¬ Y.length ≤ i := by omega
                    have h2d : decide (i < Y.length) = true := decide_eq_true h2n
                    have hmx : i < max X.length Y.length := by omega
                    clear h1 h2
                    obtain ⟨p, hp⟩ : ∃ p, p = atR X (i : Int) := ⟨_, rfl⟩
                    obtain ⟨q, hq⟩ : ∃ q, q = atR Y (i : Int) := ⟨_, rfl⟩
                    have HP := Lib.hid hp
                    have HQ := Lib.hid hq
                    clear hp hq
                    by_cases he : p = q
                    · have heb : (p == q) = true := by simpa using he
                      have he1 : decide (p = q) = true := decide_eq_true he
                      have he2 : (p != q) = false := by simpa using he
                      have HRO := Lib.hid (show acc2 = acc ++ rlen cell X Y ++ rupto cell X Y (i + 1) from by rw [rupto_succ, HACC2.out]; unfold rone; rw [← HP.out, ← HQ.out, if_pos he, List.append_nil])
                      clear he
                      go_wp2_with (fail)
                      refine (at_calls Ax cx X i wr (by omega) HSX.out.1).mono ?_
                      rintro e w' ⟨rfl, hw'⟩
                      obtain rfl := hw'.symm
                      rw [← HP.out]
                      clear hw'
                      go_wp2_with (fail)
                      refine (at_calls Ay cy Y i wr (by omega) HSY.out.1).mono ?_
                      rintro e w' ⟨rfl, hw'⟩
                      obtain rfl := hw'.symm
                      rw [← HQ.out]
                      clear hw'
                      go_wp2_with (fail)
                      go_roundg (max X.length Y.length - (i + 1))
                      case measure => omega
                      case rel => exact ⟨i + 1, by omega, by go_num, ⟨by rw [← HRO.out]; exact HV.out⟩, ⟨HSX.out⟩, ⟨HSY.out⟩, ⟨HA.out⟩, ⟨HA2.out⟩, ⟨HB.out⟩⟩
                    · have heb : (p == q) = false := by simpa using he
                      have he1 : decide (p = q) = false := decide_eq_false he
                      have he2 : (p != q) = true := by simpa using he
                      have HRO := Lib.hid (show acc2 ++ [(⟨cell, i, p, q⟩ : S34)] = acc ++ rlen cell X Y ++ rupto cell X Y (i + 1) from by rw [rupto_succ, HACC2.out]; unfold rone; rw [← HP.out, ← HQ.out, if_neg he, List.append_assoc])
                      clear he
                      go_wp2_with (fail)
                      refine (at_calls Ax cx X i wr (by omega) HSX.out.1).mono ?_
                      rintro e w' ⟨rfl, hw'⟩
                      obtain rfl := hw'.symm
                      rw [← HP.out]
                      clear hw'
                      go_wp2_with (fail)
                      refine (at_calls Ay cy Y i wr (by omega) HSY.out.1).mono ?_
                      rintro e w' ⟨rfl, hw'⟩
                      obtain rfl := hw'.symm
                      rw [← HQ.out]
                      clear hw'
                      go_wp2_with (fail)
                      refine (at_calls Ax cx X i wr (by omega) HSX.out.1).mono ?_
                      rintro e w' ⟨rfl, hw'⟩
                      obtain rfl := hw'.symm
                      rw [← HP.out]
                      clear hw'
                      go_wp2_with (fail)
                      refine (at_calls Ay cy Y i wr (by omega) HSY.out.1).mono ?_
                      rintro e w' ⟨rfl, hw'⟩
                      obtain rfl := hw'.symm
                      rw [← HQ.out]
                      clear hw'
                      go_wp2_with ((with_reducible refine gate_builtin (b := .append) (xs := #[.tmp 77, .tmp 87]) rfl ?_); at_builtin; refine Kd.R_append k34 (w0 := wr) (w.heap.size + 2) rfl (.tmp 77) (.tmp 87) 28 34 (.agg #[(.int .i64 0), (.int .i64 0), (.int .i64 0), (.int .i64 0)]) 32 rfl Try.underlying28 infoI34 rfl (by decide) (by omega) u5 acc2 ⟨cell, i, p, q⟩ [.int .i64 cell, .int .i64 i, .int .i64 p, .int .i64 q] (fun _ => True) (fun _ => False) rfl rfl (k34_mkM _ _ _ _) (fun _ h => h.elim) (fun _ _ => trivial) HV.out (Below.refl _ _) (by omega) (by omega) ?_; intro v2 w2 ho hb2 hg hat)
                      go_roundg (max X.length Y.length - (i + 1))
                      case measure => omega
                      case rel => exact ⟨i + 1, by omega, by go_num, ⟨by rw [← HRO.out]; exact ho⟩, ⟨HSX.out.grown hg HV.out (by decide) (by omega)⟩, ⟨HSY.out.grown hg HV.out (by decide) (by omega)⟩, ⟨HA.out.kept hg (boxA_ne HV.out HA.out (by decide))⟩, ⟨HA2.out.kept hg (boxA_ne HV.out HA2.out (by decide))⟩, ⟨HB.out.trans (hb2.mono (by omega))⟩⟩
                  · have h2b : decide ((i : Int) < (Y.length : Int)) = false := decide_eq_false h2
                    have h2n : ¬ i < Y.length := by omega
                    have h2m : Y.length ≤ i := by omega
                    have h2d : decide (i < Y.length) = false := decide_eq_false h2n
                    have hmx : i = max X.length Y.length := by omega
                    have hre : acc2 = rcells l0_0 l0_1 l0_2 l1_0 l1_1 l1_2 (k + 1) := by
                      rw [HACC2.out, hmx, List.append_assoc, rcells_succ, ← HACC.out]
                      unfold reachF
                      rw [← HCELL.out, ← HX.out, ← HY.out]
                    have HRE := Lib.hid hre
                    clear h1 h2 hre hmx
                    go_wp2_with (fail)
                    go_roundg (l0_0.length + 2 - (k + 1))
                    case measure => omega
                    case rel => exact ⟨k + 1, by omega, by go_num, ⟨by rw [← HRE.out]; exact HV.out⟩, ⟨HA.out⟩, ⟨HA2.out⟩, ⟨HB.out⟩⟩
      · have hib : decide ((k : Int) < (l0_0.length : Int) + 2) = false := decide_eq_false (by omega)
        obtain rfl : k = l0_0.length + 2 := by omega
        have hv := HV.out
        rw [← HR.out] at hv
        have HVV := Lib.hid hv
        clear hv
        go_wp2
        go_ret
        exact ⟨_, rfl, Kd.R_lower HVV.out (by omega), HB.out⟩
  · have hle1 : decide ((l0_0.length : Int) = (l1_0.length : Int)) = false := decide_eq_false hle
    have hle2 : ((l0_0.length : Int) != (l1_0.length : Int)) = true := by simpa using hle
    have hleb : ((l0_0.length : Int) == (l1_0.length : Int)) = false := by simpa using hle
    have hr : r = [] := by rw [← h]; unfold refDiffAll; rw [if_neg hle]
    subst hr
    clear h
    go_enter Try.func17, Try.ntmps17
    go_wp2
    go_ret
    exact ⟨_, rfl, Kd.R_nil _ _ _ _ _, below_alloc (below_alloc (Below.refl _ _) _) _⟩
end Go.Proofs.Ytjphfhmkpknfaaa.PAll
