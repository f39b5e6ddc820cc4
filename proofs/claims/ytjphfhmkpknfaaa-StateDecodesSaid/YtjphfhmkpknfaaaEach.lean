/- state.Diff's closure 'each': the differences of one component are appended to what the captured box holds. -/
import Derived.Test.YtjphfhmkpknfaaaView
set_option linter.unusedVariables false
set_option linter.unusedSimpArgs false
namespace Go.Proofs.Ytjphfhmkpknfaaa.PAll
open Go.RowKit Go.Proofs.YtjphfhmkpknfaaaW.PrintWords Go.Proofs.YtjphfhmkpknfaaaW.PrintLast Go.Proofs.YtjphfhmkpknfaaaW.PrintMore
attribute [local go_sem] max2_int min2_int max_two min_two max_three min_three max_four min_four

def diffLen (cell : Int) (x y : List Int) : List S61 := if (x.length : Int) = (y.length : Int) then [] else [⟨cell, -1, x.length, y.length⟩]
def diffOne (cell : Int) (x y : List Int) (i : Nat) : List S61 := if viewAt x cell i = viewAt y cell i then [] else [⟨cell, i, viewAt x cell i, viewAt y cell i⟩]
def diffUpto (cell : Int) (x y : List Int) (n : Nat) : List S61 := (List.range n).flatMap (diffOne cell x y)
def eachF (cell : Int) (x y : List Int) : List S61 := diffLen cell x y ++ diffUpto cell x y (max x.length y.length)
theorem diffUpto_zero (cell : Int) (x y : List Int) : diffUpto cell x y 0 = [] := rfl
theorem diffUpto_succ (cell : Int) (x y : List Int) (n : Nat) : diffUpto cell x y (n + 1) = diffUpto cell x y n ++ diffOne cell x y n := by
  unfold diffUpto
  rw [List.range_succ, List.flatMap_append]; simp
theorem diffOne_len (cell : Int) (x y : List Int) (n : Nat) : (diffOne cell x y n).length ≤ 1 := by unfold diffOne; split <;> simp
theorem diffUpto_len (cell : Int) (x y : List Int) : ∀ n, (diffUpto cell x y n).length ≤ n
  | 0 => by simp [diffUpto_zero]
  | n + 1 => by
    have := diffUpto_len cell x y n
    have := diffOne_len cell x y n
    rw [diffUpto_succ, List.length_append]; omega

section
variable {α : Type} {d : Kd α} {e : Nat} {w W : World} {base : Nat} {ok : Nat → Prop} {v u : Value} {xs : List α}
/-- What a call owns from base on stays while a block below base is written. -/
theorem R_setBox (h : d.R e w base ok v xs) {B : Nat} (hB : B < base) (x : Value) : d.R e (w.setCell ⟨B, 0, none⟩ x) base ok v xs :=
  Kd.R_mono (Kd.R_move (Kd.R_bound h) (fun k hk => Below.heap_setCell w ⟨B, 0, none⟩ x k (by have := hk.2.1; simp; omega))) (fun _ hk => hk.1)
theorem box_below {t : TypeId} {B : Nat} (h : Boxed w B t v) (hb : Below w.heap.size w W) : Boxed W B t v := (hb.block B h.lt).trans h
theorem box_ne {t : TypeId} {B : Nat} (h : d.R e w base ok v xs) (hb : Boxed w B t u) (hte : t ≠ e) : some B ≠ v.ownBlock := by
  intro he
  obtain ⟨inner, ho⟩ := Kd.R_own h
  obtain ⟨cells, hc⟩ := own_typed ho B he.symm
  rw [show w.heap[B]? = _ from hb] at hc
  injection hc with hc
  injection hc with _ h2
  exact hte h2
theorem box_other {t : TypeId} {B B' : Nat} (hb : Boxed w B t u) (hne : B ≠ B') (x : Value) : Boxed (w.setCell ⟨B', 0, none⟩ x) B t u := hb.other hne x
end

theorem infoI61 : (Try.prog.info? 61).map (fun i => (i.zero, i.size, i.bytes)) = some (some (.agg #[(.int .i64 0), (.int .i64 0), (.int .i64 0), (.int .i64 0)]), 4, 32) := by kernel_rfl
set_option maxRecDepth 100000 in
set_option maxHeartbeats 4000000 in
theorem each_calls (cell : Int) (Ax : Option Addr) (cx : Nat) (x : List Int) (Ay : Option Addr) (cy : Nat) (y : List Int) (w : World) (B : Nat) (v : Value) (out : List S61)
    (hx : ∀ W, Below B w W → Kd.C (Kd.int .i64) W Ax x.length x) (hy : ∀ W, Below B w W → Kd.C (Kd.int .i64) W Ay y.length y) (hxl : x.length ≤ 1073741824) (hyl : y.length ≤ 1073741824) (hol : out.length ≤ 1099511627776)
    (hb : Boxed w B 30 v) (hv : Kd.R k61 61 w (B + 1) (fun _ => True) v out) :
    Calls Try.prog 34 #[.int .i64 cell, .slice Ax x.length cx, .slice Ay y.length cy, .pointer (some ⟨B, 0, none⟩)] w fun e w' => e = .returned (.tuple #[]) ∧ ∃ v', Boxed w' B 30 v' ∧ Kd.R k61 61 w' (B + 1) (fun _ => True) v' (out ++ eachF cell x y) ∧ Below B w w' := by
  have HX := Lib.hid hx
  have HY := Lib.hid hy
  have HBX := Lib.hid hb
  have HV := Lib.hid hv
  have hbl := hb.lt
  have hbc := hb.cell
  have hbf := hb.frozen
  clear hx hy hb hv
  by_cases hle : (x.length : Int) = (y.length : Int)
  · have hleb : ((x.length : Int) == (y.length : Int)) = true := by simpa using hle
    have hle1 : decide ((x.length : Int) = (y.length : Int)) = true := decide_eq_true hle
    have hle2 : ((x.length : Int) != (y.length : Int)) = false := by simpa using hle
    have hle3 : x.length = y.length := by omega
    have hdl : diffLen cell x y = [] := by unfold diffLen; rw [if_pos hle]
    go_enter Try.func34, Try.ntmps34
    go_upto_region 2 with (fail)
    obtain ⟨W3, hW3⟩ : ∃ W3, W3 = w := ⟨_, rfl⟩
    obtain ⟨v3, hv3⟩ : ∃ v3, v3 = v := ⟨_, rfl⟩
    obtain ⟨out1, hout1⟩ : ∃ out1, out1 = out ++ diffLen cell x y := ⟨_, rfl⟩
    have ho1 : out1.length ≤ 1099511627777 := by rw [hout1, hdl]; simp; omega
    have HBX3 := Lib.hid (show Boxed W3 B 30 v3 from by rw [hW3, hv3]; exact HBX.out)
    have HV3 := Lib.hid (show Kd.R k61 61 W3 (B + 1) (fun _ => True) v3 out1 from by rw [hW3, hv3, hout1, hdl, List.append_nil]; exact HV.out)
    have HB3 := Lib.hid (show Below B w W3 from by rw [hW3]; exact Below.refl _ _)
    have HO1 := Lib.hid hout1
    clear hout1 hv3
    rw [show w = W3 from hW3.symm]
    clear hW3

    clear hle hleb hle1 hle2 hle3 hdl hbc hbf HBX HV
    obtain ⟨N, hN⟩ : ∃ N : Nat, N = max x.length y.length := ⟨_, rfl⟩
    have hmax : (if (x.length : Int) < (y.length : Int) then (y.length : Int) else (x.length : Int)) = (N : Int) := by rw [hN]; split <;> omega
    have hmax2 : (if x.length < y.length then (y.length : Int) else (x.length : Int)) = (N : Int) := by rw [hN]; split <;> omega
    have HN := Lib.hid hN
    clear hN
    have hNl : N ≤ 1073741824 := by have := HN.out; omega
    go_wp2_with fail
    refine (view_calls cell Ax cx x W3).mono ?_
    rintro e w1 ⟨rfl, hw1⟩
    obtain ⟨z, hz⟩ : ∃ z, z = W3.heap.size := ⟨_, rfl⟩
    have hbx4 : Boxed w1 B 30 v3 := by rw [hw1]; exact (HBX3.out.alloc _).alloc _
    have hv4 : Kd.R k61 61 w1 (B + 1) (fun _ => True) v3 out1 := by rw [hw1]; exact Kd.R_alloc (Kd.R_alloc HV3.out _) _
    have hbl4 : Boxed w1 z 23 (.slice Ax x.length cx) := by rw [hw1, hz]; exact (Boxed.new W3 23 _).alloc _
    have hbc4 : Boxed w1 (z + 1) 3 (.int .i64 cell) := by
      rw [hw1, hz]
      have := Boxed.new (W3.alloc (.cells #[.slice Ax x.length cx] 23)) 3 (.int .i64 cell)
      simpa using this
    have hB4 : Below B w w1 := by
      rw [hw1]
      have hzz := HBX3.out.lt
      exact (HB3.out.alloc (by omega) _).alloc (by simp; omega) _
    have hz4 : w1.heap.size = z + 2 := by rw [hw1, hz]; simp
    have hBz : B < z := by have := HBX3.out.lt; omega
    rw [← hz]
    clear hw1 hz HBX3 HV3 HB3
    go_wp2_with fail
    refine (view_calls cell Ay cy y w1).mono ?_
    rintro e w4 ⟨rfl, hw4⟩
    have hbx5 : Boxed w4 B 30 v3 := by rw [hw4]; exact (hbx4.alloc _).alloc _
    have hv5 : Kd.R k61 61 w4 (B + 1) (fun _ => True) v3 out1 := by rw [hw4]; exact Kd.R_alloc (Kd.R_alloc hv4 _) _
    have hbl5 : Boxed w4 z 23 (.slice Ax x.length cx) := by rw [hw4]; exact (hbl4.alloc _).alloc _
    have hbc5 : Boxed w4 (z + 1) 3 (.int .i64 cell) := by rw [hw4]; exact (hbc4.alloc _).alloc _
    have hyl5 : Boxed w4 (z + 2) 23 (.slice Ay y.length cy) := by rw [hw4, ← hz4]; exact (Boxed.new w1 23 _).alloc _
    have hyc5 : Boxed w4 (z + 2 + 1) 3 (.int .i64 cell) := by
      rw [hw4]
      have := Boxed.new (w1.alloc (.cells #[.slice Ay y.length cy] 23)) 3 (.int .i64 cell)
      rw [World.size_alloc, hz4] at this
      exact this
    have hB5 : Below B w w4 := by rw [hw4]; exact (hB4.alloc (by omega) _).alloc (by simp; omega) _
    rw [hz4]
    have HBX := Lib.hid hbx5
    have HV := Lib.hid hv5
    have HXL := Lib.hid hbl5
    have HXC := Lib.hid hbc5
    have HYL := Lib.hid hyl5
    have HYC := Lib.hid hyc5
    have HB := Lib.hid hB5
    clear hw4 hbx4 hv4 hbl4 hbc4 hB4 hz4 hbx5 hv5 hbl5 hbc5 hyl5 hyc5 hB5
    go_wp2
    go_loopw [35] (fun vi wr => ∃ (i : Nat) (v' : Value), i ≤ N ∧ vi = .int .i64 i ∧ Aside0 (Boxed wr B 30 v') ∧ Aside0 (Kd.R k61 61 wr (B + 1) (fun _ => True) v' (out1 ++ diffUpto cell x y i)) ∧
        Aside0 (Boxed wr z 23 (.slice Ax x.length cx)) ∧ Aside0 (Boxed wr (z + 1) 3 (.int .i64 cell)) ∧ Aside0 (Boxed wr (z + 2) 23 (.slice Ay y.length cy)) ∧ Aside0 (Boxed wr (z + 2 + 1) 3 (.int .i64 cell)) ∧ Aside0 (Below B w wr))
      (fun vi _ => N - (intOf vi).toNat)
    case atStart => exact ⟨0, v3, Nat.zero_le _, rfl, ⟨HBX.out⟩, ⟨by rw [diffUpto_zero, List.append_nil]; exact HV.out⟩, ⟨HXL.out⟩, ⟨HXC.out⟩, ⟨HYL.out⟩, ⟨HYC.out⟩, ⟨HB.out⟩⟩
    case round =>
      clear HBX HV HXL HXC HYL HYC HB
      obtain ⟨i, v', hiN, rfl, HBX, HV, HXL, HXC, HYL, HYC, HB⟩ := hrel
      by_cases hi : (i : Int) < (N : Int)
      · have hi1 : decide ((i : Int) < (N : Int)) = true := decide_eq_true hi
        have hbc := HBX.out.cell
        have hrx := HX.out wr HB.out
        have hry := HY.out wr HB.out
        have HRX := Lib.hid hrx
        have HRY := Lib.hid hry
        clear hrx hry
        obtain ⟨p, hp⟩ : ∃ p, p = viewAt x cell i := ⟨_, rfl⟩
        obtain ⟨q, hq⟩ : ∃ q, q = viewAt y cell i := ⟨_, rfl⟩
        have HP := Lib.hid hp
        have HQ := Lib.hid hq
        clear hp hq
        have hlen : (out1 ++ diffUpto cell x y i).length ≤ 2199023255552 := by
          have := diffUpto_len cell x y i
          rw [List.length_append]; omega
        by_cases hne : p = q
        · have hne1 : (p == q) = true := by simpa using hne
          have hne2 : decide (p = q) = true := decide_eq_true hne
          have hne3 : (p != q) = false := by simpa using hne
          go_wp2_with (first | (go_at_call 54; first | ((with_reducible refine (view1_calls i cell Ax cx x wr (z + 1) z (by omega) (by omega) (by omega) HXC.out.cell HXL.out.cell HRX.out).mono ?_); rintro e w' ⟨rfl, hw'⟩; obtain rfl := hw'.symm; simp only [← HP.out]) | ((with_reducible refine (view1_calls i cell Ay cy y wr (z + 2 + 1) (z + 2) (by omega) (by omega) (by omega) HYC.out.cell HYL.out.cell HRY.out).mono ?_); rintro e w' ⟨rfl, hw'⟩; obtain rfl := hw'.symm; simp only [← HQ.out])))
          go_roundw
          case measure => simp [intOf]; omega
          case rel =>
            refine ⟨i + 1, v', by omega, by go_num, ⟨HBX.out⟩, ⟨?_⟩, ⟨HXL.out⟩, ⟨HXC.out⟩, ⟨HYL.out⟩, ⟨HYC.out⟩, ⟨HB.out⟩⟩
            have h1 : diffOne cell x y i = [] := by unfold diffOne; rw [← HP.out, ← HQ.out, if_pos hne]
            rw [diffUpto_succ, h1, List.append_nil]
            exact HV.out
        · have hne1 : (p == q) = false := by simpa using hne
          have hne2 : decide (p = q) = false := decide_eq_false hne
          have hne3 : (p != q) = true := by simpa using hne
          go_upto_region 7 with (first | (go_at_call 54; first | ((with_reducible refine (view1_calls i cell Ax cx x wr (z + 1) z (by omega) (by omega) (by omega) HXC.out.cell HXL.out.cell HRX.out).mono ?_); rintro e w' ⟨rfl, hw'⟩; obtain rfl := hw'.symm; simp only [← HP.out]) | ((with_reducible refine (view1_calls i cell Ay cy y wr (z + 2 + 1) (z + 2) (by omega) (by omega) (by omega) HYC.out.cell HYL.out.cell HRY.out).mono ?_); rintro e w' ⟨rfl, hw'⟩; obtain rfl := hw'.symm; simp only [← HQ.out])))
          have hmix : Try.prog.follows .mixedOrders = true := by kernel_rfl
          refine wp_region_any hmix ?_
          change wpAny _ _ _ _ _ _ _ (World.drew _)
          obtain ⟨wd, hwd⟩ : ∃ wd, wd = wr.drew := ⟨_, rfl⟩
          have nHBX : Boxed wd B 30 v' := by rw [hwd]; exact HBX.out
          have nHV : Kd.R k61 61 wd (B + 1) (fun _ => True) v' (out1 ++ diffUpto cell x y i) := by rw [hwd]; exact Kd.R_drew HV.out
          have nHXL : Boxed wd z 23 (.slice Ax x.length cx) := by rw [hwd]; exact HXL.out
          have nHXC : Boxed wd (z + 1) 3 (.int .i64 cell) := by rw [hwd]; exact HXC.out
          have nHYL : Boxed wd (z + 2) 23 (.slice Ay y.length cy) := by rw [hwd]; exact HYL.out
          have nHYC : Boxed wd (z + 2 + 1) 3 (.int .i64 cell) := by rw [hwd]; exact HYC.out
          have nHB : Below B w wd := by rw [hwd]; exact below_drew1 HB.out
          have nHRX : Kd.C (Kd.int .i64) wd Ax x.length x := by rw [hwd]; exact Kd.C_drew HRX.out
          have nHRY : Kd.C (Kd.int .i64) wd Ay y.length y := by rw [hwd]; exact Kd.C_drew HRY.out
          rw [← hwd]
          clear HBX HV HXL HXC HYL HYC HB HRX HRY hbc hwd
          have HBX := Lib.hid nHBX
          have HV := Lib.hid nHV
          have HXL := Lib.hid nHXL
          have HXC := Lib.hid nHXC
          have HYL := Lib.hid nHYL
          have HYC := Lib.hid nHYC
          have HB := Lib.hid nHB
          have HRX := Lib.hid nHRX
          have HRY := Lib.hid nHRY
          clear nHBX nHV nHXL nHXC nHYL nHYC nHB nHRX nHRY
          have hbc := HBX.out.cell
          have hbca : ∀ o, (wd.alloc o).cell? ⟨B, 0, none⟩ = some v' := fun o => (HBX.out.alloc o).cell
          obtain ⟨acc, hacc⟩ : ∃ acc, acc = out1 ++ diffUpto cell x y i := ⟨_, rfl⟩
          have HACC := Lib.hid hacc
          have hva : Kd.R k61 61 wd (B + 1) (fun _ => True) v' acc := by rw [hacc]; exact HV.out
          have HVA := Lib.hid hva
          rw [← hacc] at hlen
          clear hacc hva HV
          have hdz := HBX.out.lt
          refine wpAny_take (i := 1) (v := ?_) rfl (by kernel_rfl) (by kernel_rfl) (by kernel_rfl) (fun _ _ _ h => h) (Or.inl ⟨by rfl, ?_⟩) ?_
          case refine_2 => intro w'; go_simp; rfl
          refine wpAny_take (i := 2) (v := ?_) rfl (by kernel_rfl) (by kernel_rfl) (by kernel_rfl) (fun _ _ _ h => h) (Or.inl ⟨by rfl, ?_⟩) ?_
          case refine_2 => intro w'; go_simp; rfl
          refine wpAny_take (i := 3) (v := ?_) rfl (by kernel_rfl) (by kernel_rfl) (by kernel_rfl) (fun _ _ _ h => h) (Or.inl ⟨by rfl, ?_⟩) ?_
          case refine_2 => intro w'; go_simp; rfl
          refine wpAny_take (i := 4) (v := ?_) rfl (by kernel_rfl) (by kernel_rfl) (by kernel_rfl) (fun _ _ _ h => h) (Or.inl ⟨by rfl, ?_⟩) ?_
          case refine_2 => intro w'; go_simp; rfl
          refine wpAny_take (i := 6) (v := ?_) rfl (by kernel_rfl) (by kernel_rfl) (by kernel_rfl) (fun _ _ _ h => h) (Or.inl ⟨by rfl, ?_⟩) ?_
          case refine_2 => intro w'; go_simp; rfl
          refine wpAny_take (i := 7) (v := ?_) rfl (by kernel_rfl) (by kernel_rfl) (by kernel_rfl) (fun _ _ _ h => h) (Or.inl ⟨by rfl, ?_⟩) ?_
          case refine_2 => intro w'; go_simp; rfl
          refine wpAny_ready (rs := [0, 5]) (by kernel_rfl) (by simp) (AllReady.cons rfl (fun K hK => ?o0_1) (AllReady.cons rfl (fun K hK => ?o5_1) (AllReady.nil)))
          case o0_1 =>
            go_simp
            refine hK _ _ ?_
            clear hK K
            refine wpAny_ready (rs := [5]) (by kernel_rfl) (by simp) (AllReady.cons rfl (fun K hK => ?o5_2) (AllReady.nil))
            case o5_2 =>
              go_simp
              refine (view1_calls i cell Ax cx x wd (z + 1) z (by omega) (by omega) (by omega) HXC.out.cell HXL.out.cell HRX.out).mono ?_
              rintro e w' ⟨rfl, hw'⟩
              obtain rfl := hw'.symm
              simp only [← HP.out]
              refine hK _ _ ?_
              clear hK K hw'
              refine wpAny_ready (rs := [8]) (by kernel_rfl) (by simp) (AllReady.cons rfl (fun K hK => ?o8_3) (AllReady.nil))
              case o8_3 =>
                go_simp
                refine (view1_calls i cell Ay cy y wd (z + 2 + 1) (z + 2) (by omega) (by omega) (by omega) HYC.out.cell HYL.out.cell HRY.out).mono ?_
                rintro e w' ⟨rfl, hw'⟩
                obtain rfl := hw'.symm
                simp only [← HQ.out]
                refine hK _ _ ?_
                clear hK K hw'
                refine wpAny_take (i := 9) (v := ?_) rfl (by kernel_rfl) (by kernel_rfl) (by kernel_rfl) (fun _ _ _ h => h) (Or.inl ⟨by rfl, ?_⟩) ?_
                case refine_2 => intro w'; go_simp; rfl
                refine wpAny_ready (rs := [10]) (by kernel_rfl) (by simp) (AllReady.cons rfl (fun K hK => ?o10_4) (AllReady.nil))
                case o10_4 =>
                  go_simp
                  refine hK _ _ ?_
                  clear hK K
                  refine wpAny_ready (rs := [11]) (by kernel_rfl) (by simp) (AllReady.cons rfl (fun K hK => ?_) AllReady.nil)
                  refine Kd.R_append_step k61 (w0 := wd) (B + 1) (by rfl) (.tmp 45) (.tmp 55) 30 61 (.agg #[(.int .i64 0), (.int .i64 0), (.int .i64 0), (.int .i64 0)]) 32 rfl Try.underlying30 infoI61 rfl (by decide) (by omega) v' acc ⟨cell, i, p, q⟩ [.int .i64 cell, .int .i64 i, .int .i64 p, .int .i64 q] (fun _ => True) (fun _ => False) rfl rfl (k61_mkM _ _ _ _) (fun _ h => h.elim) (fun _ _ => trivial) HVA.out (Below.refl _ _) (by omega) (by omega) ?_
                  intro v2 w2 ho hb2 hg hat
                  refine hK _ _ ?_
                  clear hK K
                  obtain ⟨A2, c2, rfl⟩ := Kd.R_slice ho
                  have hbx2 : Boxed w2 B 30 v' := HBX.out.kept hg (box_ne HVA.out HBX.out (by decide))
                  have hc2 := hbx2.cell
                  have hf2 := hbx2.frozen
                  refine wpAny_ready (rs := [12]) (by kernel_rfl) (by simp) (AllReady.cons rfl (fun K hK => ?_) AllReady.nil)
                  go_simp
                  refine hK _ _ ?_
                  clear hK K
                  refine wpAny_done (by kernel_rfl) ?_ _
                  go_wp2
                  go_roundw
                  case measure => simp [intOf]; omega
                  case rel =>
                    have e2 : (acc ++ [(⟨cell, i, p, q⟩ : S61)]).length = acc.length + 1 := by simp
                    rw [e2] at ho
                    refine ⟨i + 1, _, by omega, by go_num, ⟨hbx2.set _⟩, ⟨?_⟩, ⟨(HXL.out.kept hg (box_ne HVA.out HXL.out (by decide))).other (by omega) _⟩, ⟨(HXC.out.kept hg (box_ne HVA.out HXC.out (by decide))).other (by omega) _⟩, ⟨(HYL.out.kept hg (box_ne HVA.out HYL.out (by decide))).other (by omega) _⟩, ⟨(HYC.out.kept hg (box_ne HVA.out HYC.out (by decide))).other (by omega) _⟩, ⟨?_⟩⟩
                    · have h1 : diffOne cell x y i = [⟨cell, i, p, q⟩] := by unfold diffOne; rw [← HP.out, ← HQ.out, if_neg hne]
                      rw [diffUpto_succ, h1, ← List.append_assoc, ← HACC.out]
                      exact R_setBox ho (by omega) _
                    · have hb3 : Below B wd w2 := hb2.mono (by omega)
                      exact (HB.out.trans (hb3.mono (by omega))).setCell (p := ⟨B, 0, none⟩) (Nat.le_refl _) _
          case o5_1 =>
            go_simp
            refine (view1_calls i cell Ax cx x wd (z + 1) z (by omega) (by omega) (by omega) HXC.out.cell HXL.out.cell HRX.out).mono ?_
            rintro e w' ⟨rfl, hw'⟩
            obtain rfl := hw'.symm
            simp only [← HP.out]
            refine hK _ _ ?_
            clear hK K hw'
            refine wpAny_ready (rs := [0, 8]) (by kernel_rfl) (by simp) (AllReady.cons rfl (fun K hK => ?o0_5) (AllReady.cons rfl (fun K hK => ?o8_5) (AllReady.nil)))
            case o0_5 =>
              go_simp
              refine hK _ _ ?_
              clear hK K
              refine wpAny_ready (rs := [8]) (by kernel_rfl) (by simp) (AllReady.cons rfl (fun K hK => ?o8_6) (AllReady.nil))
              case o8_6 =>
                go_simp
                refine (view1_calls i cell Ay cy y wd (z + 2 + 1) (z + 2) (by omega) (by omega) (by omega) HYC.out.cell HYL.out.cell HRY.out).mono ?_
                rintro e w' ⟨rfl, hw'⟩
                obtain rfl := hw'.symm
                simp only [← HQ.out]
                refine hK _ _ ?_
                clear hK K hw'
                refine wpAny_take (i := 9) (v := ?_) rfl (by kernel_rfl) (by kernel_rfl) (by kernel_rfl) (fun _ _ _ h => h) (Or.inl ⟨by rfl, ?_⟩) ?_
                case refine_2 => intro w'; go_simp; rfl
                refine wpAny_ready (rs := [10]) (by kernel_rfl) (by simp) (AllReady.cons rfl (fun K hK => ?o10_7) (AllReady.nil))
                case o10_7 =>
                  go_simp
                  refine hK _ _ ?_
                  clear hK K
                  refine wpAny_ready (rs := [11]) (by kernel_rfl) (by simp) (AllReady.cons rfl (fun K hK => ?_) AllReady.nil)
                  refine Kd.R_append_step k61 (w0 := wd) (B + 1) (by rfl) (.tmp 45) (.tmp 55) 30 61 (.agg #[(.int .i64 0), (.int .i64 0), (.int .i64 0), (.int .i64 0)]) 32 rfl Try.underlying30 infoI61 rfl (by decide) (by omega) v' acc ⟨cell, i, p, q⟩ [.int .i64 cell, .int .i64 i, .int .i64 p, .int .i64 q] (fun _ => True) (fun _ => False) rfl rfl (k61_mkM _ _ _ _) (fun _ h => h.elim) (fun _ _ => trivial) HVA.out (Below.refl _ _) (by omega) (by omega) ?_
                  intro v2 w2 ho hb2 hg hat
                  refine hK _ _ ?_
                  clear hK K
                  obtain ⟨A2, c2, rfl⟩ := Kd.R_slice ho
                  have hbx2 : Boxed w2 B 30 v' := HBX.out.kept hg (box_ne HVA.out HBX.out (by decide))
                  have hc2 := hbx2.cell
                  have hf2 := hbx2.frozen
                  refine wpAny_ready (rs := [12]) (by kernel_rfl) (by simp) (AllReady.cons rfl (fun K hK => ?_) AllReady.nil)
                  go_simp
                  refine hK _ _ ?_
                  clear hK K
                  refine wpAny_done (by kernel_rfl) ?_ _
                  go_wp2
                  go_roundw
                  case measure => simp [intOf]; omega
                  case rel =>
                    have e2 : (acc ++ [(⟨cell, i, p, q⟩ : S61)]).length = acc.length + 1 := by simp
                    rw [e2] at ho
                    refine ⟨i + 1, _, by omega, by go_num, ⟨hbx2.set _⟩, ⟨?_⟩, ⟨(HXL.out.kept hg (box_ne HVA.out HXL.out (by decide))).other (by omega) _⟩, ⟨(HXC.out.kept hg (box_ne HVA.out HXC.out (by decide))).other (by omega) _⟩, ⟨(HYL.out.kept hg (box_ne HVA.out HYL.out (by decide))).other (by omega) _⟩, ⟨(HYC.out.kept hg (box_ne HVA.out HYC.out (by decide))).other (by omega) _⟩, ⟨?_⟩⟩
                    · have h1 : diffOne cell x y i = [⟨cell, i, p, q⟩] := by unfold diffOne; rw [← HP.out, ← HQ.out, if_neg hne]
                      rw [diffUpto_succ, h1, ← List.append_assoc, ← HACC.out]
                      exact R_setBox ho (by omega) _
                    · have hb3 : Below B wd w2 := hb2.mono (by omega)
                      exact (HB.out.trans (hb3.mono (by omega))).setCell (p := ⟨B, 0, none⟩) (Nat.le_refl _) _
            case o8_5 =>
              go_simp
              refine (view1_calls i cell Ay cy y wd (z + 2 + 1) (z + 2) (by omega) (by omega) (by omega) HYC.out.cell HYL.out.cell HRY.out).mono ?_
              rintro e w' ⟨rfl, hw'⟩
              obtain rfl := hw'.symm
              simp only [← HQ.out]
              refine hK _ _ ?_
              clear hK K hw'
              refine wpAny_take (i := 9) (v := ?_) rfl (by kernel_rfl) (by kernel_rfl) (by kernel_rfl) (fun _ _ _ h => h) (Or.inl ⟨by rfl, ?_⟩) ?_
              case refine_2 => intro w'; go_simp; rfl
              refine wpAny_ready (rs := [0, 10]) (by kernel_rfl) (by simp) (AllReady.cons rfl (fun K hK => ?o0_8) (AllReady.cons rfl (fun K hK => ?o10_8) (AllReady.nil)))
              case o0_8 =>
                go_simp
                refine hK _ _ ?_
                clear hK K
                refine wpAny_ready (rs := [10]) (by kernel_rfl) (by simp) (AllReady.cons rfl (fun K hK => ?o10_9) (AllReady.nil))
                case o10_9 =>
                  go_simp
                  refine hK _ _ ?_
                  clear hK K
                  refine wpAny_ready (rs := [11]) (by kernel_rfl) (by simp) (AllReady.cons rfl (fun K hK => ?_) AllReady.nil)
                  refine Kd.R_append_step k61 (w0 := wd) (B + 1) (by rfl) (.tmp 45) (.tmp 55) 30 61 (.agg #[(.int .i64 0), (.int .i64 0), (.int .i64 0), (.int .i64 0)]) 32 rfl Try.underlying30 infoI61 rfl (by decide) (by omega) v' acc ⟨cell, i, p, q⟩ [.int .i64 cell, .int .i64 i, .int .i64 p, .int .i64 q] (fun _ => True) (fun _ => False) rfl rfl (k61_mkM _ _ _ _) (fun _ h => h.elim) (fun _ _ => trivial) HVA.out (Below.refl _ _) (by omega) (by omega) ?_
                  intro v2 w2 ho hb2 hg hat
                  refine hK _ _ ?_
                  clear hK K
                  obtain ⟨A2, c2, rfl⟩ := Kd.R_slice ho
                  have hbx2 : Boxed w2 B 30 v' := HBX.out.kept hg (box_ne HVA.out HBX.out (by decide))
                  have hc2 := hbx2.cell
                  have hf2 := hbx2.frozen
                  refine wpAny_ready (rs := [12]) (by kernel_rfl) (by simp) (AllReady.cons rfl (fun K hK => ?_) AllReady.nil)
                  go_simp
                  refine hK _ _ ?_
                  clear hK K
                  refine wpAny_done (by kernel_rfl) ?_ _
                  go_wp2
                  go_roundw
                  case measure => simp [intOf]; omega
                  case rel =>
                    have e2 : (acc ++ [(⟨cell, i, p, q⟩ : S61)]).length = acc.length + 1 := by simp
                    rw [e2] at ho
                    refine ⟨i + 1, _, by omega, by go_num, ⟨hbx2.set _⟩, ⟨?_⟩, ⟨(HXL.out.kept hg (box_ne HVA.out HXL.out (by decide))).other (by omega) _⟩, ⟨(HXC.out.kept hg (box_ne HVA.out HXC.out (by decide))).other (by omega) _⟩, ⟨(HYL.out.kept hg (box_ne HVA.out HYL.out (by decide))).other (by omega) _⟩, ⟨(HYC.out.kept hg (box_ne HVA.out HYC.out (by decide))).other (by omega) _⟩, ⟨?_⟩⟩
                    · have h1 : diffOne cell x y i = [⟨cell, i, p, q⟩] := by unfold diffOne; rw [← HP.out, ← HQ.out, if_neg hne]
                      rw [diffUpto_succ, h1, ← List.append_assoc, ← HACC.out]
                      exact R_setBox ho (by omega) _
                    · have hb3 : Below B wd w2 := hb2.mono (by omega)
                      exact (HB.out.trans (hb3.mono (by omega))).setCell (p := ⟨B, 0, none⟩) (Nat.le_refl _) _
              case o10_8 =>
                go_simp
                refine hK _ _ ?_
                clear hK K
                refine wpAny_ready (rs := [0]) (by kernel_rfl) (by simp) (AllReady.cons rfl (fun K hK => ?o0_10) (AllReady.nil))
                case o0_10 =>
                  go_simp
                  refine hK _ _ ?_
                  clear hK K
                  refine wpAny_ready (rs := [11]) (by kernel_rfl) (by simp) (AllReady.cons rfl (fun K hK => ?_) AllReady.nil)
                  refine Kd.R_append_step k61 (w0 := wd) (B + 1) (by rfl) (.tmp 45) (.tmp 55) 30 61 (.agg #[(.int .i64 0), (.int .i64 0), (.int .i64 0), (.int .i64 0)]) 32 rfl Try.underlying30 infoI61 rfl (by decide) (by omega) v' acc ⟨cell, i, p, q⟩ [.int .i64 cell, .int .i64 i, .int .i64 p, .int .i64 q] (fun _ => True) (fun _ => False) rfl rfl (k61_mkM _ _ _ _) (fun _ h => h.elim) (fun _ _ => trivial) HVA.out (Below.refl _ _) (by omega) (by omega) ?_
                  intro v2 w2 ho hb2 hg hat
                  refine hK _ _ ?_
                  clear hK K
                  obtain ⟨A2, c2, rfl⟩ := Kd.R_slice ho
                  have hbx2 : Boxed w2 B 30 v' := HBX.out.kept hg (box_ne HVA.out HBX.out (by decide))
                  have hc2 := hbx2.cell
                  have hf2 := hbx2.frozen
                  refine wpAny_ready (rs := [12]) (by kernel_rfl) (by simp) (AllReady.cons rfl (fun K hK => ?_) AllReady.nil)
                  go_simp
                  refine hK _ _ ?_
                  clear hK K
                  refine wpAny_done (by kernel_rfl) ?_ _
                  go_wp2
                  go_roundw
                  case measure => simp [intOf]; omega
                  case rel =>
                    have e2 : (acc ++ [(⟨cell, i, p, q⟩ : S61)]).length = acc.length + 1 := by simp
                    rw [e2] at ho
                    refine ⟨i + 1, _, by omega, by go_num, ⟨hbx2.set _⟩, ⟨?_⟩, ⟨(HXL.out.kept hg (box_ne HVA.out HXL.out (by decide))).other (by omega) _⟩, ⟨(HXC.out.kept hg (box_ne HVA.out HXC.out (by decide))).other (by omega) _⟩, ⟨(HYL.out.kept hg (box_ne HVA.out HYL.out (by decide))).other (by omega) _⟩, ⟨(HYC.out.kept hg (box_ne HVA.out HYC.out (by decide))).other (by omega) _⟩, ⟨?_⟩⟩
                    · have h1 : diffOne cell x y i = [⟨cell, i, p, q⟩] := by unfold diffOne; rw [← HP.out, ← HQ.out, if_neg hne]
                      rw [diffUpto_succ, h1, ← List.append_assoc, ← HACC.out]
                      exact R_setBox ho (by omega) _
                    · have hb3 : Below B wd w2 := hb2.mono (by omega)
                      exact (HB.out.trans (hb3.mono (by omega))).setCell (p := ⟨B, 0, none⟩) (Nat.le_refl _) _
      · have hi1 : decide ((i : Int) < (N : Int)) = false := decide_eq_false hi
        obtain rfl : i = N := by omega
        go_wp2
        go_end0
        refine ⟨rfl, v', HBX.out, ?_, HB.out⟩
        have := HV.out
        rw [HO1.out, HN.out, List.append_assoc] at this
        exact this

  · have hleb : ((x.length : Int) == (y.length : Int)) = false := by simpa using hle
    have hle1 : decide ((x.length : Int) = (y.length : Int)) = false := decide_eq_false hle
    have hle2 : ((x.length : Int) != (y.length : Int)) = true := by simpa using hle
    have hle3 : ¬ x.length = y.length := by omega
    have hdl : diffLen cell x y = [⟨cell, -1, x.length, y.length⟩] := by unfold diffLen; rw [if_neg hle]
    go_enter Try.func34, Try.ntmps34
    go_upto_region 2 with ((with_reducible refine gate_builtin (b := .append) (xs := #[.tmp 15, .tmp 22]) rfl ?_); at_builtin; refine Kd.R_append k61 (w0 := w) (B + 1) rfl (.tmp 15) (.tmp 22) 30 61 (.agg #[(.int .i64 0), (.int .i64 0), (.int .i64 0), (.int .i64 0)]) 32 rfl Try.underlying30 infoI61 rfl (by decide) (by omega) v out ⟨cell, -1, x.length, y.length⟩ [.int .i64 cell, .int .i64 (-1), .int .i64 x.length, .int .i64 y.length] (fun _ => True) (fun _ => False) rfl rfl (k61_mkM _ _ _ _) (fun _ h => h.elim) (fun _ _ => trivial) HV.out (Below.refl _ _) (by omega) (by omega) ?_; intro v2 w2 ho hb2 hg hat; have hbx2 : Boxed w2 B 30 v := HBX.out.kept hg (box_ne HV.out HBX.out (by decide)); have hc2 := hbx2.cell; have hf2 := hbx2.frozen; obtain ⟨A2, c2, rfl⟩ := Kd.R_slice ho)
    obtain ⟨v3, hv3⟩ : ∃ v3, v3 = Value.slice A2 (out.length + 1) c2 := ⟨_, rfl⟩
    obtain ⟨W3, hW3⟩ : ∃ W3, W3 = w2.setCell ⟨B, 0, none⟩ v3 := ⟨_, rfl⟩
    obtain ⟨out1, hout1⟩ : ∃ out1, out1 = out ++ diffLen cell x y := ⟨_, rfl⟩
    have ho1 : out1.length ≤ 1099511627777 := by rw [hout1, hdl]; simp; omega
    have hll : (out ++ [(⟨cell, -1, x.length, y.length⟩ : S61)]).length = out.length + 1 := by simp
    rw [hll, ← hv3] at ho
    have hb2' : Below B w w2 := hb2.mono (by omega)
    have HBX3 := Lib.hid (show Boxed W3 B 30 v3 from by rw [hW3]; exact hbx2.set _)
    have HV3 := Lib.hid (show Kd.R k61 61 W3 (B + 1) (fun _ => True) v3 out1 from by rw [hW3, hout1, hdl]; exact R_setBox ho (by omega) _)
    have HB3 := Lib.hid (show Below B w W3 from by rw [hW3]; exact hb2'.setCell (p := ⟨B, 0, none⟩) (Nat.le_refl _) _)
    have HO1 := Lib.hid hout1
    rw [← hv3, ← hW3]
    clear hb2' hout1 hll ho hW3 hv3 hat hf2 hc2 hbx2 hg hb2

    clear hle hleb hle1 hle2 hle3 hdl hbc hbf HBX HV
    obtain ⟨N, hN⟩ : ∃ N : Nat, N = max x.length y.length := ⟨_, rfl⟩
    have hmax : (if (x.length : Int) < (y.length : Int) then (y.length : Int) else (x.length : Int)) = (N : Int) := by rw [hN]; split <;> omega
    have hmax2 : (if x.length < y.length then (y.length : Int) else (x.length : Int)) = (N : Int) := by rw [hN]; split <;> omega
    have HN := Lib.hid hN
    clear hN
    have hNl : N ≤ 1073741824 := by have := HN.out; omega
    go_wp2_with fail
    refine (view_calls cell Ax cx x W3).mono ?_
    rintro e w1 ⟨rfl, hw1⟩
    obtain ⟨z, hz⟩ : ∃ z, z = W3.heap.size := ⟨_, rfl⟩
    have hbx4 : Boxed w1 B 30 v3 := by rw [hw1]; exact (HBX3.out.alloc _).alloc _
    have hv4 : Kd.R k61 61 w1 (B + 1) (fun _ => True) v3 out1 := by rw [hw1]; exact Kd.R_alloc (Kd.R_alloc HV3.out _) _
    have hbl4 : Boxed w1 z 23 (.slice Ax x.length cx) := by rw [hw1, hz]; exact (Boxed.new W3 23 _).alloc _
    have hbc4 : Boxed w1 (z + 1) 3 (.int .i64 cell) := by
      rw [hw1, hz]
      have := Boxed.new (W3.alloc (.cells #[.slice Ax x.length cx] 23)) 3 (.int .i64 cell)
      simpa using this
    have hB4 : Below B w w1 := by
      rw [hw1]
      have hzz := HBX3.out.lt
      exact (HB3.out.alloc (by omega) _).alloc (by simp; omega) _
    have hz4 : w1.heap.size = z + 2 := by rw [hw1, hz]; simp
    have hBz : B < z := by have := HBX3.out.lt; omega
    rw [← hz]
    clear hw1 hz HBX3 HV3 HB3
    go_wp2_with fail
    refine (view_calls cell Ay cy y w1).mono ?_
    rintro e w4 ⟨rfl, hw4⟩
    have hbx5 : Boxed w4 B 30 v3 := by rw [hw4]; exact (hbx4.alloc _).alloc _
    have hv5 : Kd.R k61 61 w4 (B + 1) (fun _ => True) v3 out1 := by rw [hw4]; exact Kd.R_alloc (Kd.R_alloc hv4 _) _
    have hbl5 : Boxed w4 z 23 (.slice Ax x.length cx) := by rw [hw4]; exact (hbl4.alloc _).alloc _
    have hbc5 : Boxed w4 (z + 1) 3 (.int .i64 cell) := by rw [hw4]; exact (hbc4.alloc _).alloc _
    have hyl5 : Boxed w4 (z + 2) 23 (.slice Ay y.length cy) := by rw [hw4, ← hz4]; exact (Boxed.new w1 23 _).alloc _
    have hyc5 : Boxed w4 (z + 2 + 1) 3 (.int .i64 cell) := by
      rw [hw4]
      have := Boxed.new (w1.alloc (.cells #[.slice Ay y.length cy] 23)) 3 (.int .i64 cell)
      rw [World.size_alloc, hz4] at this
      exact this
    have hB5 : Below B w w4 := by rw [hw4]; exact (hB4.alloc (by omega) _).alloc (by simp; omega) _
    rw [hz4]
    have HBX := Lib.hid hbx5
    have HV := Lib.hid hv5
    have HXL := Lib.hid hbl5
    have HXC := Lib.hid hbc5
    have HYL := Lib.hid hyl5
    have HYC := Lib.hid hyc5
    have HB := Lib.hid hB5
    clear hw4 hbx4 hv4 hbl4 hbc4 hB4 hz4 hbx5 hv5 hbl5 hbc5 hyl5 hyc5 hB5
    go_wp2
    go_loopw [35] (fun vi wr => ∃ (i : Nat) (v' : Value), i ≤ N ∧ vi = .int .i64 i ∧ Aside0 (Boxed wr B 30 v') ∧ Aside0 (Kd.R k61 61 wr (B + 1) (fun _ => True) v' (out1 ++ diffUpto cell x y i)) ∧
        Aside0 (Boxed wr z 23 (.slice Ax x.length cx)) ∧ Aside0 (Boxed wr (z + 1) 3 (.int .i64 cell)) ∧ Aside0 (Boxed wr (z + 2) 23 (.slice Ay y.length cy)) ∧ Aside0 (Boxed wr (z + 2 + 1) 3 (.int .i64 cell)) ∧ Aside0 (Below B w wr))
      (fun vi _ => N - (intOf vi).toNat)
    case atStart => exact ⟨0, v3, Nat.zero_le _, rfl, ⟨HBX.out⟩, ⟨by rw [diffUpto_zero, List.append_nil]; exact HV.out⟩, ⟨HXL.out⟩, ⟨HXC.out⟩, ⟨HYL.out⟩, ⟨HYC.out⟩, ⟨HB.out⟩⟩
    case round =>
      clear HBX HV HXL HXC HYL HYC HB
      obtain ⟨i, v', hiN, rfl, HBX, HV, HXL, HXC, HYL, HYC, HB⟩ := hrel
      by_cases hi : (i : Int) < (N : Int)
      · have hi1 : decide ((i : Int) < (N : Int)) = true := decide_eq_true hi
        have hbc := HBX.out.cell
        have hrx := HX.out wr HB.out
        have hry := HY.out wr HB.out
        have HRX := Lib.hid hrx
        have HRY := Lib.hid hry
        clear hrx hry
        obtain ⟨p, hp⟩ : ∃ p, p = viewAt x cell i := ⟨_, rfl⟩
        obtain ⟨q, hq⟩ : ∃ q, q = viewAt y cell i := ⟨_, rfl⟩
        have HP := Lib.hid hp
        have HQ := Lib.hid hq
        clear hp hq
        have hlen : (out1 ++ diffUpto cell x y i).length ≤ 2199023255552 := by
          have := diffUpto_len cell x y i
          rw [List.length_append]; omega
        by_cases hne : p = q
        · have hne1 : (p == q) = true := by simpa using hne
          have hne2 : decide (p = q) = true := decide_eq_true hne
          have hne3 : (p != q) = false := by simpa using hne
          go_wp2_with (first | (go_at_call 54; first | ((with_reducible refine (view1_calls i cell Ax cx x wr (z + 1) z (by omega) (by omega) (by omega) HXC.out.cell HXL.out.cell HRX.out).mono ?_); rintro e w' ⟨rfl, hw'⟩; obtain rfl := hw'.symm; simp only [← HP.out]) | ((with_reducible refine (view1_calls i cell Ay cy y wr (z + 2 + 1) (z + 2) (by omega) (by omega) (by omega) HYC.out.cell HYL.out.cell HRY.out).mono ?_); rintro e w' ⟨rfl, hw'⟩; obtain rfl := hw'.symm; simp only [← HQ.out])))
          go_roundw
          case measure => simp [intOf]; omega
          case rel =>
            refine ⟨i + 1, v', by omega, by go_num, ⟨HBX.out⟩, ⟨?_⟩, ⟨HXL.out⟩, ⟨HXC.out⟩, ⟨HYL.out⟩, ⟨HYC.out⟩, ⟨HB.out⟩⟩
            have h1 : diffOne cell x y i = [] := by unfold diffOne; rw [← HP.out, ← HQ.out, if_pos hne]
            rw [diffUpto_succ, h1, List.append_nil]
            exact HV.out
        · have hne1 : (p == q) = false := by simpa using hne
          have hne2 : decide (p = q) = false := decide_eq_false hne
          have hne3 : (p != q) = true := by simpa using hne
          go_upto_region 7 with (first | (go_at_call 54; first | ((with_reducible refine (view1_calls i cell Ax cx x wr (z + 1) z (by omega) (by omega) (by omega) HXC.out.cell HXL.out.cell HRX.out).mono ?_); rintro e w' ⟨rfl, hw'⟩; obtain rfl := hw'.symm; simp only [← HP.out]) | ((with_reducible refine (view1_calls i cell Ay cy y wr (z + 2 + 1) (z + 2) (by omega) (by omega) (by omega) HYC.out.cell HYL.out.cell HRY.out).mono ?_); rintro e w' ⟨rfl, hw'⟩; obtain rfl := hw'.symm; simp only [← HQ.out])))
          have hmix : Try.prog.follows .mixedOrders = true := by kernel_rfl
          refine wp_region_any hmix ?_
          change wpAny _ _ _ _ _ _ _ (World.drew _)
          obtain ⟨wd, hwd⟩ : ∃ wd, wd = wr.drew := ⟨_, rfl⟩
          have nHBX : Boxed wd B 30 v' := by rw [hwd]; exact HBX.out
          have nHV : Kd.R k61 61 wd (B + 1) (fun _ => True) v' (out1 ++ diffUpto cell x y i) := by rw [hwd]; exact Kd.R_drew HV.out
          have nHXL : Boxed wd z 23 (.slice Ax x.length cx) := by rw [hwd]; exact HXL.out
          have nHXC : Boxed wd (z + 1) 3 (.int .i64 cell) := by rw [hwd]; exact HXC.out
          have nHYL : Boxed wd (z + 2) 23 (.slice Ay y.length cy) := by rw [hwd]; exact HYL.out
          have nHYC : Boxed wd (z + 2 + 1) 3 (.int .i64 cell) := by rw [hwd]; exact HYC.out
          have nHB : Below B w wd := by rw [hwd]; exact below_drew1 HB.out
          have nHRX : Kd.C (Kd.int .i64) wd Ax x.length x := by rw [hwd]; exact Kd.C_drew HRX.out
          have nHRY : Kd.C (Kd.int .i64) wd Ay y.length y := by rw [hwd]; exact Kd.C_drew HRY.out
          rw [← hwd]
          clear HBX HV HXL HXC HYL HYC HB HRX HRY hbc hwd
          have HBX := Lib.hid nHBX
          have HV := Lib.hid nHV
          have HXL := Lib.hid nHXL
          have HXC := Lib.hid nHXC
          have HYL := Lib.hid nHYL
          have HYC := Lib.hid nHYC
          have HB := Lib.hid nHB
          have HRX := Lib.hid nHRX
          have HRY := Lib.hid nHRY
          clear nHBX nHV nHXL nHXC nHYL nHYC nHB nHRX nHRY
          have hbc := HBX.out.cell
          have hbca : ∀ o, (wd.alloc o).cell? ⟨B, 0, none⟩ = some v' := fun o => (HBX.out.alloc o).cell
          obtain ⟨acc, hacc⟩ : ∃ acc, acc = out1 ++ diffUpto cell x y i := ⟨_, rfl⟩
          have HACC := Lib.hid hacc
          have hva : Kd.R k61 61 wd (B + 1) (fun _ => True) v' acc := by rw [hacc]; exact HV.out
          have HVA := Lib.hid hva
          rw [← hacc] at hlen
          clear hacc hva HV
          have hdz := HBX.out.lt
          refine wpAny_take (i := 1) (v := ?_) rfl (by kernel_rfl) (by kernel_rfl) (by kernel_rfl) (fun _ _ _ h => h) (Or.inl ⟨by rfl, ?_⟩) ?_
          case refine_2 => intro w'; go_simp; rfl
          refine wpAny_take (i := 2) (v := ?_) rfl (by kernel_rfl) (by kernel_rfl) (by kernel_rfl) (fun _ _ _ h => h) (Or.inl ⟨by rfl, ?_⟩) ?_
          case refine_2 => intro w'; go_simp; rfl
          refine wpAny_take (i := 3) (v := ?_) rfl (by kernel_rfl) (by kernel_rfl) (by kernel_rfl) (fun _ _ _ h => h) (Or.inl ⟨by rfl, ?_⟩) ?_
          case refine_2 => intro w'; go_simp; rfl
          refine wpAny_take (i := 4) (v := ?_) rfl (by kernel_rfl) (by kernel_rfl) (by kernel_rfl) (fun _ _ _ h => h) (Or.inl ⟨by rfl, ?_⟩) ?_
          case refine_2 => intro w'; go_simp; rfl
          refine wpAny_take (i := 6) (v := ?_) rfl (by kernel_rfl) (by kernel_rfl) (by kernel_rfl) (fun _ _ _ h => h) (Or.inl ⟨by rfl, ?_⟩) ?_
          case refine_2 => intro w'; go_simp; rfl
          refine wpAny_take (i := 7) (v := ?_) rfl (by kernel_rfl) (by kernel_rfl) (by kernel_rfl) (fun _ _ _ h => h) (Or.inl ⟨by rfl, ?_⟩) ?_
          case refine_2 => intro w'; go_simp; rfl
          refine wpAny_ready (rs := [0, 5]) (by kernel_rfl) (by simp) (AllReady.cons rfl (fun K hK => ?o0_1) (AllReady.cons rfl (fun K hK => ?o5_1) (AllReady.nil)))
          case o0_1 =>
            go_simp
            refine hK _ _ ?_
            clear hK K
            refine wpAny_ready (rs := [5]) (by kernel_rfl) (by simp) (AllReady.cons rfl (fun K hK => ?o5_2) (AllReady.nil))
            case o5_2 =>
              go_simp
              refine (view1_calls i cell Ax cx x wd (z + 1) z (by omega) (by omega) (by omega) HXC.out.cell HXL.out.cell HRX.out).mono ?_
              rintro e w' ⟨rfl, hw'⟩
              obtain rfl := hw'.symm
              simp only [← HP.out]
              refine hK _ _ ?_
              clear hK K hw'
              refine wpAny_ready (rs := [8]) (by kernel_rfl) (by simp) (AllReady.cons rfl (fun K hK => ?o8_3) (AllReady.nil))
              case o8_3 =>
                go_simp
                refine (view1_calls i cell Ay cy y wd (z + 2 + 1) (z + 2) (by omega) (by omega) (by omega) HYC.out.cell HYL.out.cell HRY.out).mono ?_
                rintro e w' ⟨rfl, hw'⟩
                obtain rfl := hw'.symm
                simp only [← HQ.out]
                refine hK _ _ ?_
                clear hK K hw'
                refine wpAny_take (i := 9) (v := ?_) rfl (by kernel_rfl) (by kernel_rfl) (by kernel_rfl) (fun _ _ _ h => h) (Or.inl ⟨by rfl, ?_⟩) ?_
                case refine_2 => intro w'; go_simp; rfl
                refine wpAny_ready (rs := [10]) (by kernel_rfl) (by simp) (AllReady.cons rfl (fun K hK => ?o10_4) (AllReady.nil))
                case o10_4 =>
                  go_simp
                  refine hK _ _ ?_
                  clear hK K
                  refine wpAny_ready (rs := [11]) (by kernel_rfl) (by simp) (AllReady.cons rfl (fun K hK => ?_) AllReady.nil)
                  refine Kd.R_append_step k61 (w0 := wd) (B + 1) (by rfl) (.tmp 45) (.tmp 55) 30 61 (.agg #[(.int .i64 0), (.int .i64 0), (.int .i64 0), (.int .i64 0)]) 32 rfl Try.underlying30 infoI61 rfl (by decide) (by omega) v' acc ⟨cell, i, p, q⟩ [.int .i64 cell, .int .i64 i, .int .i64 p, .int .i64 q] (fun _ => True) (fun _ => False) rfl rfl (k61_mkM _ _ _ _) (fun _ h => h.elim) (fun _ _ => trivial) HVA.out (Below.refl _ _) (by omega) (by omega) ?_
                  intro v2 w2 ho hb2 hg hat
                  refine hK _ _ ?_
                  clear hK K
                  obtain ⟨A2, c2, rfl⟩ := Kd.R_slice ho
                  have hbx2 : Boxed w2 B 30 v' := HBX.out.kept hg (box_ne HVA.out HBX.out (by decide))
                  have hc2 := hbx2.cell
                  have hf2 := hbx2.frozen
                  refine wpAny_ready (rs := [12]) (by kernel_rfl) (by simp) (AllReady.cons rfl (fun K hK => ?_) AllReady.nil)
                  go_simp
                  refine hK _ _ ?_
                  clear hK K
                  refine wpAny_done (by kernel_rfl) ?_ _
                  go_wp2
                  go_roundw
                  case measure => simp [intOf]; omega
                  case rel =>
                    have e2 : (acc ++ [(⟨cell, i, p, q⟩ : S61)]).length = acc.length + 1 := by simp
                    rw [e2] at ho
                    refine ⟨i + 1, _, by omega, by go_num, ⟨hbx2.set _⟩, ⟨?_⟩, ⟨(HXL.out.kept hg (box_ne HVA.out HXL.out (by decide))).other (by omega) _⟩, ⟨(HXC.out.kept hg (box_ne HVA.out HXC.out (by decide))).other (by omega) _⟩, ⟨(HYL.out.kept hg (box_ne HVA.out HYL.out (by decide))).other (by omega) _⟩, ⟨(HYC.out.kept hg (box_ne HVA.out HYC.out (by decide))).other (by omega) _⟩, ⟨?_⟩⟩
                    · have h1 : diffOne cell x y i = [⟨cell, i, p, q⟩] := by unfold diffOne; rw [← HP.out, ← HQ.out, if_neg hne]
                      rw [diffUpto_succ, h1, ← List.append_assoc, ← HACC.out]
                      exact R_setBox ho (by omega) _
                    · have hb3 : Below B wd w2 := hb2.mono (by omega)
                      exact (HB.out.trans (hb3.mono (by omega))).setCell (p := ⟨B, 0, none⟩) (Nat.le_refl _) _
          case o5_1 =>
            go_simp
            refine (view1_calls i cell Ax cx x wd (z + 1) z (by omega) (by omega) (by omega) HXC.out.cell HXL.out.cell HRX.out).mono ?_
            rintro e w' ⟨rfl, hw'⟩
            obtain rfl := hw'.symm
            simp only [← HP.out]
            refine hK _ _ ?_
            clear hK K hw'
            refine wpAny_ready (rs := [0, 8]) (by kernel_rfl) (by simp) (AllReady.cons rfl (fun K hK => ?o0_5) (AllReady.cons rfl (fun K hK => ?o8_5) (AllReady.nil)))
            case o0_5 =>
              go_simp
              refine hK _ _ ?_
              clear hK K
              refine wpAny_ready (rs := [8]) (by kernel_rfl) (by simp) (AllReady.cons rfl (fun K hK => ?o8_6) (AllReady.nil))
              case o8_6 =>
                go_simp
                refine (view1_calls i cell Ay cy y wd (z + 2 + 1) (z + 2) (by omega) (by omega) (by omega) HYC.out.cell HYL.out.cell HRY.out).mono ?_
                rintro e w' ⟨rfl, hw'⟩
                obtain rfl := hw'.symm
                simp only [← HQ.out]
                refine hK _ _ ?_
                clear hK K hw'
                refine wpAny_take (i := 9) (v := ?_) rfl (by kernel_rfl) (by kernel_rfl) (by kernel_rfl) (fun _ _ _ h => h) (Or.inl ⟨by rfl, ?_⟩) ?_
                case refine_2 => intro w'; go_simp; rfl
                refine wpAny_ready (rs := [10]) (by kernel_rfl) (by simp) (AllReady.cons rfl (fun K hK => ?o10_7) (AllReady.nil))
                case o10_7 =>
                  go_simp
                  refine hK _ _ ?_
                  clear hK K
                  refine wpAny_ready (rs := [11]) (by kernel_rfl) (by simp) (AllReady.cons rfl (fun K hK => ?_) AllReady.nil)
                  refine Kd.R_append_step k61 (w0 := wd) (B + 1) (by rfl) (.tmp 45) (.tmp 55) 30 61 (.agg #[(.int .i64 0), (.int .i64 0), (.int .i64 0), (.int .i64 0)]) 32 rfl Try.underlying30 infoI61 rfl (by decide) (by omega) v' acc ⟨cell, i, p, q⟩ [.int .i64 cell, .int .i64 i, .int .i64 p, .int .i64 q] (fun _ => True) (fun _ => False) rfl rfl (k61_mkM _ _ _ _) (fun _ h => h.elim) (fun _ _ => trivial) HVA.out (Below.refl _ _) (by omega) (by omega) ?_
                  intro v2 w2 ho hb2 hg hat
                  refine hK _ _ ?_
                  clear hK K
                  obtain ⟨A2, c2, rfl⟩ := Kd.R_slice ho
                  have hbx2 : Boxed w2 B 30 v' := HBX.out.kept hg (box_ne HVA.out HBX.out (by decide))
                  have hc2 := hbx2.cell
                  have hf2 := hbx2.frozen
                  refine wpAny_ready (rs := [12]) (by kernel_rfl) (by simp) (AllReady.cons rfl (fun K hK => ?_) AllReady.nil)
                  go_simp
                  refine hK _ _ ?_
                  clear hK K
                  refine wpAny_done (by kernel_rfl) ?_ _
                  go_wp2
                  go_roundw
                  case measure => simp [intOf]; omega
                  case rel =>
                    have e2 : (acc ++ [(⟨cell, i, p, q⟩ : S61)]).length = acc.length + 1 := by simp
                    rw [e2] at ho
                    refine ⟨i + 1, _, by omega, by go_num, ⟨hbx2.set _⟩, ⟨?_⟩, ⟨(HXL.out.kept hg (box_ne HVA.out HXL.out (by decide))).other (by omega) _⟩, ⟨(HXC.out.kept hg (box_ne HVA.out HXC.out (by decide))).other (by omega) _⟩, ⟨(HYL.out.kept hg (box_ne HVA.out HYL.out (by decide))).other (by omega) _⟩, ⟨(HYC.out.kept hg (box_ne HVA.out HYC.out (by decide))).other (by omega) _⟩, ⟨?_⟩⟩
                    · have h1 : diffOne cell x y i = [⟨cell, i, p, q⟩] := by unfold diffOne; rw [← HP.out, ← HQ.out, if_neg hne]
                      rw [diffUpto_succ, h1, ← List.append_assoc, ← HACC.out]
                      exact R_setBox ho (by omega) _
                    · have hb3 : Below B wd w2 := hb2.mono (by omega)
                      exact (HB.out.trans (hb3.mono (by omega))).setCell (p := ⟨B, 0, none⟩) (Nat.le_refl _) _
            case o8_5 =>
              go_simp
              refine (view1_calls i cell Ay cy y wd (z + 2 + 1) (z + 2) (by omega) (by omega) (by omega) HYC.out.cell HYL.out.cell HRY.out).mono ?_
              rintro e w' ⟨rfl, hw'⟩
              obtain rfl := hw'.symm
              simp only [← HQ.out]
              refine hK _ _ ?_
              clear hK K hw'
              refine wpAny_take (i := 9) (v := ?_) rfl (by kernel_rfl) (by kernel_rfl) (by kernel_rfl) (fun _ _ _ h => h) (Or.inl ⟨by rfl, ?_⟩) ?_
              case refine_2 => intro w'; go_simp; rfl
              refine wpAny_ready (rs := [0, 10]) (by kernel_rfl) (by simp) (AllReady.cons rfl (fun K hK => ?o0_8) (AllReady.cons rfl (fun K hK => ?o10_8) (AllReady.nil)))
              case o0_8 =>
                go_simp
                refine hK _ _ ?_
                clear hK K
                refine wpAny_ready (rs := [10]) (by kernel_rfl) (by simp) (AllReady.cons rfl (fun K hK => ?o10_9) (AllReady.nil))
                case o10_9 =>
                  go_simp
                  refine hK _ _ ?_
                  clear hK K
                  refine wpAny_ready (rs := [11]) (by kernel_rfl) (by simp) (AllReady.cons rfl (fun K hK => ?_) AllReady.nil)
                  refine Kd.R_append_step k61 (w0 := wd) (B + 1) (by rfl) (.tmp 45) (.tmp 55) 30 61 (.agg #[(.int .i64 0), (.int .i64 0), (.int .i64 0), (.int .i64 0)]) 32 rfl Try.underlying30 infoI61 rfl (by decide) (by omega) v' acc ⟨cell, i, p, q⟩ [.int .i64 cell, .int .i64 i, .int .i64 p, .int .i64 q] (fun _ => True) (fun _ => False) rfl rfl (k61_mkM _ _ _ _) (fun _ h => h.elim) (fun _ _ => trivial) HVA.out (Below.refl _ _) (by omega) (by omega) ?_
                  intro v2 w2 ho hb2 hg hat
                  refine hK _ _ ?_
                  clear hK K
                  obtain ⟨A2, c2, rfl⟩ := Kd.R_slice ho
                  have hbx2 : Boxed w2 B 30 v' := HBX.out.kept hg (box_ne HVA.out HBX.out (by decide))
                  have hc2 := hbx2.cell
                  have hf2 := hbx2.frozen
                  refine wpAny_ready (rs := [12]) (by kernel_rfl) (by simp) (AllReady.cons rfl (fun K hK => ?_) AllReady.nil)
                  go_simp
                  refine hK _ _ ?_
                  clear hK K
                  refine wpAny_done (by kernel_rfl) ?_ _
                  go_wp2
                  go_roundw
                  case measure => simp [intOf]; omega
                  case rel =>
                    have e2 : (acc ++ [(⟨cell, i, p, q⟩ : S61)]).length = acc.length + 1 := by simp
                    rw [e2] at ho
                    refine ⟨i + 1, _, by omega, by go_num, ⟨hbx2.set _⟩, ⟨?_⟩, ⟨(HXL.out.kept hg (box_ne HVA.out HXL.out (by decide))).other (by omega) _⟩, ⟨(HXC.out.kept hg (box_ne HVA.out HXC.out (by decide))).other (by omega) _⟩, ⟨(HYL.out.kept hg (box_ne HVA.out HYL.out (by decide))).other (by omega) _⟩, ⟨(HYC.out.kept hg (box_ne HVA.out HYC.out (by decide))).other (by omega) _⟩, ⟨?_⟩⟩
                    · have h1 : diffOne cell x y i = [⟨cell, i, p, q⟩] := by unfold diffOne; rw [← HP.out, ← HQ.out, if_neg hne]
                      rw [diffUpto_succ, h1, ← List.append_assoc, ← HACC.out]
                      exact R_setBox ho (by omega) _
                    · have hb3 : Below B wd w2 := hb2.mono (by omega)
                      exact (HB.out.trans (hb3.mono (by omega))).setCell (p := ⟨B, 0, none⟩) (Nat.le_refl _) _
              case o10_8 =>
                go_simp
                refine hK _ _ ?_
                clear hK K
                refine wpAny_ready (rs := [0]) (by kernel_rfl) (by simp) (AllReady.cons rfl (fun K hK => ?o0_10) (AllReady.nil))
                case o0_10 =>
                  go_simp
                  refine hK _ _ ?_
                  clear hK K
                  refine wpAny_ready (rs := [11]) (by kernel_rfl) (by simp) (AllReady.cons rfl (fun K hK => ?_) AllReady.nil)
                  refine Kd.R_append_step k61 (w0 := wd) (B + 1) (by rfl) (.tmp 45) (.tmp 55) 30 61 (.agg #[(.int .i64 0), (.int .i64 0), (.int .i64 0), (.int .i64 0)]) 32 rfl Try.underlying30 infoI61 rfl (by decide) (by omega) v' acc ⟨cell, i, p, q⟩ [.int .i64 cell, .int .i64 i, .int .i64 p, .int .i64 q] (fun _ => True) (fun _ => False) rfl rfl (k61_mkM _ _ _ _) (fun _ h => h.elim) (fun _ _ => trivial) HVA.out (Below.refl _ _) (by omega) (by omega) ?_
                  intro v2 w2 ho hb2 hg hat
                  refine hK _ _ ?_
                  clear hK K
                  obtain ⟨A2, c2, rfl⟩ := Kd.R_slice ho
                  have hbx2 : Boxed w2 B 30 v' := HBX.out.kept hg (box_ne HVA.out HBX.out (by decide))
                  have hc2 := hbx2.cell
                  have hf2 := hbx2.frozen
                  refine wpAny_ready (rs := [12]) (by kernel_rfl) (by simp) (AllReady.cons rfl (fun K hK => ?_) AllReady.nil)
                  go_simp
                  refine hK _ _ ?_
                  clear hK K
                  refine wpAny_done (by kernel_rfl) ?_ _
                  go_wp2
                  go_roundw
                  case measure => simp [intOf]; omega
                  case rel =>
                    have e2 : (acc ++ [(⟨cell, i, p, q⟩ : S61)]).length = acc.length + 1 := by simp
                    rw [e2] at ho
                    refine ⟨i + 1, _, by omega, by go_num, ⟨hbx2.set _⟩, ⟨?_⟩, ⟨(HXL.out.kept hg (box_ne HVA.out HXL.out (by decide))).other (by omega) _⟩, ⟨(HXC.out.kept hg (box_ne HVA.out HXC.out (by decide))).other (by omega) _⟩, ⟨(HYL.out.kept hg (box_ne HVA.out HYL.out (by decide))).other (by omega) _⟩, ⟨(HYC.out.kept hg (box_ne HVA.out HYC.out (by decide))).other (by omega) _⟩, ⟨?_⟩⟩
                    · have h1 : diffOne cell x y i = [⟨cell, i, p, q⟩] := by unfold diffOne; rw [← HP.out, ← HQ.out, if_neg hne]
                      rw [diffUpto_succ, h1, ← List.append_assoc, ← HACC.out]
                      exact R_setBox ho (by omega) _
                    · have hb3 : Below B wd w2 := hb2.mono (by omega)
                      exact (HB.out.trans (hb3.mono (by omega))).setCell (p := ⟨B, 0, none⟩) (Nat.le_refl _) _
      · have hi1 : decide ((i : Int) < (N : Int)) = false := decide_eq_false hi
        obtain rfl : i = N := by omega
        go_wp2
        go_end0
        refine ⟨rfl, v', HBX.out, ?_, HB.out⟩
        have := HV.out
        rw [HO1.out, HN.out, List.append_assoc] at this
        exact this

end Go.Proofs.Ytjphfhmkpknfaaa.PAll
