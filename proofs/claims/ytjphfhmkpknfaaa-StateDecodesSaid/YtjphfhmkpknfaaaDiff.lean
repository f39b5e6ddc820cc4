/- state.Diff: the differences of all components, in order, as a new slice. -/
import Derived.Test.YtjphfhmkpknfaaaEach
set_option linter.unusedVariables false
set_option linter.unusedSimpArgs false
namespace Go.Proofs.Ytjphfhmkpknfaaa.PAll
open Go.RowKit Go.Proofs.YtjphfhmkpknfaaaW.PrintWords Go.Proofs.YtjphfhmkpknfaaaW.PrintLast Go.Proofs.YtjphfhmkpknfaaaW.PrintMore
attribute [local go_sem] max2_int min2_int max_two min_two max_three min_three max_four min_four

def rowAt (xs : List (List Int)) (i : Int) : List Int := xs.getD i.toNat ([] : List Int)
theorem at_row {w : World} {A : Option Addr} {n : Nat} {xs : List (List Int)} (h : Kd.C (Kd.slice 3 (Kd.int .i64)) w A n xs) (i : Int) (h0 : 0 ≤ i) (h1 : i < n) : ∃ ad A0 c0, A = some ad ∧ w.cell? (ad.add i.toNat) = some (.slice A0 (rowAt xs i).length c0) ∧ (rowAt xs i).length ≤ c0 ∧ (Kd.int .i64).C w A0 (rowAt xs i).length (rowAt xs i) := by
  obtain ⟨ad, c, e, _, hK, hc0⟩ := Kd.C_get h ([] : List Int) i h0 h1
  have hc : ∀ j u, c[j]? = some u → w.cell? (ad.add (i.toNat * 1 + j)) = some u := hc0
  obtain ⟨A0, c0, rfl, l0, g0⟩ := hK
  exact ⟨ad, A0, c0, e, by have hq := hc 0 _ rfl; rwa [Nat.mul_one, Nat.add_zero] at hq, l0, g0⟩
def diffCells (xs ys : List (List Int)) (n : Nat) : List S61 := (List.range n).flatMap fun i : Nat => eachF (i : Int) (rowAt xs (i : Int)) (rowAt ys (i : Int))
theorem diffCells_zero (xs ys : List (List Int)) : diffCells xs ys 0 = [] := rfl
theorem diffCells_succ (xs ys : List (List Int)) (n : Nat) : diffCells xs ys (n + 1) = diffCells xs ys n ++ eachF n (rowAt xs n) (rowAt ys n) := by
  unfold diffCells
  rw [List.range_succ, List.flatMap_append]; simp
def diffAll (xs : List (List Int)) (xi xo : List Int) (ys : List (List Int)) (yi yo : List Int) : List S61 :=
  if (xs.length : Int) = (ys.length : Int) then diffCells xs ys xs.length ++ eachF (-1) xi yi ++ eachF (-2) xo yo else []
def rowsIn (xs : List (List Int)) (xi xo : List Int) : Prop := xs.length ≤ 1000 ∧ (∀ r ∈ xs, r.length ≤ 5000) ∧ xi.length ≤ 5000 ∧ xo.length ≤ 5000
instance (xs : List (List Int)) (xi xo : List Int) : Decidable (rowsIn xs xi xo) := by unfold rowsIn; infer_instance
def state_Diff.f (l0_0 : List (List Int)) (l0_1 l0_2 : List Int) (l1_0 : List (List Int)) (l1_1 l1_2 : List Int) : Option (List S61) :=
  if rowsIn l0_0 l0_1 l0_2 ∧ rowsIn l1_0 l1_1 l1_2 then some (diffAll l0_0 l0_1 l0_2 l1_0 l1_1 l1_2) else none
theorem eachF_len {cell : Int} {x y : List Int} (hx : x.length ≤ 5000) (hy : y.length ≤ 5000) : (eachF cell x y).length ≤ 5001 := by
  have h1 := diffUpto_len cell x y (max x.length y.length)
  have h2 : (diffLen cell x y).length ≤ 1 := by unfold diffLen; split <;> simp
  unfold eachF
  rw [List.length_append]; omega
theorem rowAt_len {xs : List (List Int)} (h : ∀ r ∈ xs, r.length ≤ 5000) (i : Int) : (rowAt xs i).length ≤ 5000 := by
  unfold rowAt
  rw [List.getD_eq_getElem?_getD]
  cases he : xs[i.toNat]? with
  | none => simp
  | some r => exact h r (List.mem_of_getElem? he)
theorem diffCells_len {xs ys : List (List Int)} (hx : ∀ r ∈ xs, r.length ≤ 5000) (hy : ∀ r ∈ ys, r.length ≤ 5000) : ∀ n, (diffCells xs ys n).length ≤ n * 5001
  | 0 => by simp [diffCells_zero]
  | n + 1 => by
    have := diffCells_len hx hy n
    have := eachF_len (cell := n) (rowAt_len hx n) (rowAt_len hy n)
    rw [diffCells_succ, List.length_append]; omega

/-- A box that holds a state. -/
def BoxA (W : World) (B : Nat) (s0 s1 s2 : Value) : Prop := W.heap[B]? = some (.cells #[s0, s1, s2] 25 (0, 0))
theorem BoxA.c0 {W : World} {B : Nat} {s0 s1 s2 : Value} (h : BoxA W B s0 s1 s2) : W.cell? ⟨B, 0, none⟩ = some s0 := by simp [World.cell?, show W.heap[B]? = _ from h]
theorem BoxA.c1 {W : World} {B : Nat} {s0 s1 s2 : Value} (h : BoxA W B s0 s1 s2) : W.cell? ⟨B, 1, none⟩ = some s1 := by simp [World.cell?, show W.heap[B]? = _ from h]
theorem BoxA.c2 {W : World} {B : Nat} {s0 s1 s2 : Value} (h : BoxA W B s0 s1 s2) : W.cell? ⟨B, 2, none⟩ = some s2 := by simp [World.cell?, show W.heap[B]? = _ from h]
theorem BoxA.lt {W : World} {B : Nat} {s0 s1 s2 : Value} (h : BoxA W B s0 s1 s2) : B < W.heap.size := (Array.getElem?_eq_some_iff.1 h).1
theorem BoxA.below {W W' : World} {B b : Nat} {s0 s1 s2 : Value} (h : BoxA W B s0 s1 s2) (hb : Below b W W') (hB : B < b) : BoxA W' B s0 s1 s2 := (hb.block B hB).trans h
theorem BoxA.alloc {W : World} {B : Nat} {s0 s1 s2 : Value} (h : BoxA W B s0 s1 s2) (o : Obj) : BoxA (W.alloc o) B s0 s1 s2 := h.below (b := B + 1) ((Below.refl _ W).alloc (by have := h.lt; omega) o) (by omega)
theorem BoxA.new (W : World) (s0 s1 s2 : Value) : BoxA (W.alloc (.cells #[s0, s1, s2] 25)) W.heap.size s0 s1 s2 := World.alloc_heap_new W _

set_option maxRecDepth 100000 in
set_option maxHeartbeats 4000000 in
theorem state_Diff.calls (A0_0 : Option Addr) (c0_0 : Nat) (l0_0 : List (List Int)) (A0_1 : Option Addr) (c0_1 : Nat) (l0_1 : List Int) (A0_2 : Option Addr) (c0_2 : Nat) (l0_2 : List Int) (A1_0 : Option Addr) (c1_0 : Nat) (l1_0 : List (List Int)) (A1_1 : Option Addr) (c1_1 : Nat) (l1_1 : List Int) (A1_2 : Option Addr) (c1_2 : Nat) (l1_2 : List Int) (r : List S61) (w : World)
    (hr0_0 : Kd.C (Kd.slice 3 (Kd.int .i64)) w A0_0 l0_0.length l0_0) (hc0_0 : l0_0.length ≤ c0_0) (hr0_1 : Kd.C (Kd.int .i64) w A0_1 l0_1.length l0_1) (hc0_1 : l0_1.length ≤ c0_1) (hr0_2 : Kd.C (Kd.int .i64) w A0_2 l0_2.length l0_2) (hc0_2 : l0_2.length ≤ c0_2)
    (hr1_0 : Kd.C (Kd.slice 3 (Kd.int .i64)) w A1_0 l1_0.length l1_0) (hc1_0 : l1_0.length ≤ c1_0) (hr1_1 : Kd.C (Kd.int .i64) w A1_1 l1_1.length l1_1) (hc1_1 : l1_1.length ≤ c1_1) (hr1_2 : Kd.C (Kd.int .i64) w A1_2 l1_2.length l1_2) (hc1_2 : l1_2.length ≤ c1_2)
    (h : state_Diff.f l0_0 l0_1 l0_2 l1_0 l1_1 l1_2 = some r) :
    Calls Try.prog 16 #[.agg #[.slice A0_0 l0_0.length c0_0, .slice A0_1 l0_1.length c0_1, .slice A0_2 l0_2.length c0_2], .agg #[.slice A1_0 l1_0.length c1_0, .slice A1_1 l1_1.length c1_1, .slice A1_2 l1_2.length c1_2]] w fun e w' => ∃ v0_ : Value, e = .returned (v0_) ∧ Kd.R k61 61 w' w.heap.size (fun _ => True) v0_ r ∧ Below w.heap.size w w' := by
  unfold state_Diff.f at h
  have hg : rowsIn l0_0 l0_1 l0_2 ∧ rowsIn l1_0 l1_1 l1_2 := by
    by_cases hg : rowsIn l0_0 l0_1 l0_2 ∧ rowsIn l1_0 l1_1 l1_2
    · exact hg
    · rw [if_neg hg] at h; exact absurd h (by simp)
  rw [if_pos hg] at h
  obtain ⟨⟨hn0, hn1, hn2, hn3⟩, ⟨hm0, hm1, hm2, hm3⟩⟩ := hg
  have h := Option.some.inj h
  have HR00 := Lib.hid hr0_0
  have HR01 := Lib.hid hr0_1
  have HR02 := Lib.hid hr0_2
  have HR10 := Lib.hid hr1_0
  have HR11 := Lib.hid hr1_1
  have HR12 := Lib.hid hr1_2
  have HN1 := Lib.hid hn1
  have HM1 := Lib.hid hm1
  clear hr0_0 hr0_1 hr0_2 hr1_0 hr1_1 hr1_2 hc0_0 hc0_1 hc0_2 hc1_0 hc1_1 hc1_2 hn1 hm1
  by_cases hle : (l0_0.length : Int) = (l1_0.length : Int)
  · have hle1 : decide ((l0_0.length : Int) = (l1_0.length : Int)) = true := decide_eq_true hle
    have hle2 : ((l0_0.length : Int) != (l1_0.length : Int)) = false := by simpa using hle
    have hleb : ((l0_0.length : Int) == (l1_0.length : Int)) = true := by simpa using hle
    have hle3 : l0_0.length = l1_0.length := by omega
    have hr : r = diffCells l0_0 l1_0 l0_0.length ++ eachF (-1) l0_1 l1_1 ++ eachF (-2) l0_2 l1_2 := by rw [← h]; unfold diffAll; rw [if_pos hle]
    have HR := Lib.hid hr
    have HLE := Lib.hid hle
    clear h hr hle hle3
    go_enter Try.func16, Try.ntmps16
    go_wp2
    obtain ⟨w4, hw4⟩ : ∃ w4, w4 = ((w.alloc (.cells #[.slice A0_0 l0_0.length c0_0, .slice A0_1 l0_1.length c0_1, .slice A0_2 l0_2.length c0_2] 25)).alloc (.cells #[.slice A1_0 l1_0.length c1_0, .slice A1_1 l1_1.length c1_1, .slice A1_2 l1_2.length c1_2] 25)).alloc (.cells #[.slice none 0 0] 30) := ⟨_, rfl⟩
    rw [← hw4]
    have hba : BoxA w4 w.heap.size (.slice A0_0 l0_0.length c0_0) (.slice A0_1 l0_1.length c0_1) (.slice A0_2 l0_2.length c0_2) := by rw [hw4]; exact ((BoxA.new w _ _ _).alloc _).alloc _
    have hbb : BoxA w4 (w.heap.size + 1) (.slice A1_0 l1_0.length c1_0) (.slice A1_1 l1_1.length c1_1) (.slice A1_2 l1_2.length c1_2) := by
      rw [hw4]
      have := (BoxA.new (w.alloc (.cells #[.slice A0_0 l0_0.length c0_0, .slice A0_1 l0_1.length c0_1, .slice A0_2 l0_2.length c0_2] 25)) (.slice A1_0 l1_0.length c1_0) (.slice A1_1 l1_1.length c1_1) (.slice A1_2 l1_2.length c1_2)).alloc (.cells #[.slice none 0 0] 30)
      rw [World.size_alloc] at this
      exact this
    have hbo : Boxed w4 (w.heap.size + 1 + 1) 30 (.slice none 0 0) := by
      rw [hw4]
      have := Boxed.new ((w.alloc (.cells #[.slice A0_0 l0_0.length c0_0, .slice A0_1 l0_1.length c0_1, .slice A0_2 l0_2.length c0_2] 25)).alloc (.cells #[.slice A1_0 l1_0.length c1_0, .slice A1_1 l1_1.length c1_1, .slice A1_2 l1_2.length c1_2] 25)) 30 (.slice none 0 0)
      rw [World.size_alloc, World.size_alloc] at this
      exact this
    have hbw : Below w.heap.size w w4 := by rw [hw4]; exact below_alloc (below_alloc (below_alloc (Below.refl _ _) _) _) _
    have HA := Lib.hid hba
    have HA2 := Lib.hid hbb
    have HBX := Lib.hid hbo
    have HB := Lib.hid hbw
    clear hw4 hba hbb hbo hbw
    go_loopw [19] (fun vi wr => ∃ (i : Nat) (v' : Value), i ≤ l0_0.length ∧ vi = .int .i64 i ∧ Aside0 (Boxed wr (w.heap.size + 1 + 1) 30 v') ∧ Aside0 (Kd.R k61 61 wr (w.heap.size + 1 + 1 + 1) (fun _ => True) v' (diffCells l0_0 l1_0 i)) ∧
        Aside0 (BoxA wr w.heap.size (.slice A0_0 l0_0.length c0_0) (.slice A0_1 l0_1.length c0_1) (.slice A0_2 l0_2.length c0_2)) ∧ Aside0 (BoxA wr (w.heap.size + 1) (.slice A1_0 l1_0.length c1_0) (.slice A1_1 l1_1.length c1_1) (.slice A1_2 l1_2.length c1_2)) ∧ Aside0 (Below w.heap.size w wr))
      (fun vi _ => l0_0.length - (intOf vi).toNat)
    case atStart => exact ⟨0, .slice none 0 0, Nat.zero_le _, rfl, ⟨HBX.out⟩, ⟨Kd.R_nil _ _ _ _ _⟩, ⟨HA.out⟩, ⟨HA2.out⟩, ⟨HB.out⟩⟩
    case round =>
      clear HBX HA HA2 HB
      obtain ⟨i, v', hiN, rfl, HBX, HV, HA, HA2, HB⟩ := hrel
      have hbs := HBX.out.lt
      by_cases hi : (i : Int) < (l0_0.length : Int)
      · have hi1 : decide ((i : Int) < (l0_0.length : Int)) = true := decide_eq_true hi
        have hcl := diffCells_len HN1.out HM1.out i
        have hxl := rowAt_len HN1.out i
        have hyl := rowAt_len HM1.out i
        obtain ⟨ax, Ax, cx, rfl, hxc, hxl2, hxr⟩ := at_row HR00.out i (by omega) (by omega)
        obtain ⟨ay, Ay, cy, rfl, hyc, hyl2, hyr⟩ := at_row HR10.out i (by omega) (by have := HLE.out; omega)
        have hmix : Try.prog.follows .mixedOrders = true := by kernel_rfl
        go_upto_region 8 with (fail)
        refine wp_region_any hmix ?_
        change wpAny _ _ _ _ _ _ _ (World.drew _)
        obtain ⟨wd, hwd⟩ : ∃ wd, wd = wr.drew := ⟨_, rfl⟩
        have nHBX : Boxed wd (w.heap.size + 1 + 1) 30 v' := by rw [hwd]; exact HBX.out
        have nHV : Kd.R k61 61 wd (w.heap.size + 1 + 1 + 1) (fun _ => True) v' (diffCells l0_0 l1_0 i) := by rw [hwd]; exact Kd.R_drew HV.out
        have nHA : BoxA wd w.heap.size (.slice (some ax) l0_0.length c0_0) (.slice A0_1 l0_1.length c0_1) (.slice A0_2 l0_2.length c0_2) := by rw [hwd]; exact HA.out
        have nHA2 : BoxA wd (w.heap.size + 1) (.slice (some ay) l1_0.length c1_0) (.slice A1_1 l1_1.length c1_1) (.slice A1_2 l1_2.length c1_2) := by rw [hwd]; exact HA2.out
        have nHB : Below w.heap.size w wd := by rw [hwd]; exact below_drew1 HB.out
        rw [← hwd]
        clear HBX HV HA HA2 HB hwd
        have hxc := (nHB.cell (World.block_lt_of_cell? w _ hxc)).trans hxc
        have hyc := (nHB.cell (World.block_lt_of_cell? w _ hyc)).trans hyc
        simp only [Int.toNat_natCast] at hxc hyc
        have hac := nHA.c0
        have hbc := nHA2.c0
        have HBX := Lib.hid nHBX
        have HV := Lib.hid nHV
        have HA := Lib.hid nHA
        have HA2 := Lib.hid nHA2
        have HB := Lib.hid nHB
        have HX := Lib.hid hxr
        have HY := Lib.hid hyr
        have p1 : (0 ≤ (i : Int)) = True := eq_true (by omega)
        have p2 : ((i : Int) < (l0_0.length : Int)) = True := eq_true hi
        have p3 : ((i : Int) < (l1_0.length : Int)) = True := eq_true (by have := HLE.out; omega)
        clear nHBX nHV nHA nHA2 nHB hxr hyr
        refine wpAny_take (i := 0) (v := ?_) rfl (by kernel_rfl) (by kernel_rfl) (by kernel_rfl) (fun _ _ _ h => h) (Or.inl ⟨by rfl, ?_⟩) ?_
        case refine_2 => intro w'; go_simp; try rfl
        refine wpAny_take (i := 1) (v := ?_) rfl (by kernel_rfl) (by kernel_rfl) (by kernel_rfl) (fun _ _ _ h => h) (Or.inl ⟨by rfl, ?_⟩) ?_
        case refine_2 => intro w'; go_simp; try rfl
        refine wpAny_take (i := 2) (v := ?_) rfl (by kernel_rfl) (by kernel_rfl) (by kernel_rfl) (fun _ _ _ h => h) (Or.inl ⟨by rfl, ?_⟩) ?_
        case refine_2 => intro w'; go_simp; try rfl
        refine wpAny_take (i := 4) (v := ?_) rfl (by kernel_rfl) (by kernel_rfl) (by kernel_rfl) (fun _ _ _ h => h) (Or.inl ⟨by rfl, ?_⟩) ?_
        case refine_2 => intro w'; go_simp; try rfl
        refine wpAny_take (i := 7) (v := ?_) rfl (by kernel_rfl) (by kernel_rfl) (by kernel_rfl) (fun _ _ _ h => h) (Or.inl ⟨by rfl, ?_⟩) ?_
        case refine_2 => intro w'; go_simp; try rfl
        refine wpAny_take (i := 9) (v := ?_) rfl (by kernel_rfl) (by kernel_rfl) (by kernel_rfl) (fun _ _ _ h => h) (Or.inl ⟨by rfl, ?_⟩) ?_
        case refine_2 => intro w'; go_simp; try rfl
        refine wpAny_ready (rs := [3, 8]) (by kernel_rfl) (by simp) (AllReady.cons rfl (fun K hK => ?o3_1) (AllReady.cons rfl (fun K hK => ?o8_1) (AllReady.nil)))
        case o3_1 =>
          go_simp
          refine hK _ _ ?_
          clear hK K
          refine wpAny_take (i := 5) (v := ?_) rfl (by kernel_rfl) (by kernel_rfl) (by kernel_rfl) (fun _ _ _ h => h) (Or.inl ⟨by rfl, ?_⟩) ?_
          case refine_2 => intro w'; go_simp; try rfl
          refine wpAny_ready (rs := [6, 8]) (by kernel_rfl) (by simp) (AllReady.cons rfl (fun K hK => ?o6_2) (AllReady.cons rfl (fun K hK => ?o8_2) (AllReady.nil)))
          case o6_2 =>
            go_simp
            refine hK _ _ ?_
            clear hK K
            refine wpAny_ready (rs := [8]) (by kernel_rfl) (by simp) (AllReady.cons rfl (fun K hK => ?o8_3) (AllReady.nil))
            case o8_3 =>
              go_simp
              refine hK _ _ ?_
              clear hK K
              refine wpAny_take (i := 10) (v := ?_) rfl (by kernel_rfl) (by kernel_rfl) (by kernel_rfl) (fun _ _ _ h => h) (Or.inl ⟨by rfl, ?_⟩) ?_
              case refine_2 => intro w'; go_simp; try rfl
              refine wpAny_ready (rs := [11]) (by kernel_rfl) (by simp) (AllReady.cons rfl (fun K hK => ?o11_4) (AllReady.nil))
              case o11_4 =>
                go_simp
                refine hK _ _ ?_
                clear hK K
                refine wpAny_ready (rs := [12]) (by kernel_rfl) (by simp) (AllReady.cons rfl (fun K hK => ?_) AllReady.nil)
                go_simp
                refine (each_calls i Ax cx (rowAt l0_0 i) Ay cy (rowAt l1_0 i) wd (w.heap.size + 1 + 1) v' (diffCells l0_0 l1_0 i) (fun W hW => Kd.C_below HX.out (HB.out.trans (hW.mono (by omega)))) (fun W hW => Kd.C_below HY.out (HB.out.trans (hW.mono (by omega)))) (by omega) (by omega) (by omega) HBX.out HV.out).mono ?_
                rintro e w1 ⟨rfl, v1, hbx1, hv1, hb1⟩
                refine hK _ _ ?_
                clear hK K
                refine wpAny_done (by kernel_rfl) ?_ _
                go_wp2
                go_roundw
                case measure => simp [intOf]; omega
                case rel => exact ⟨i + 1, v1, by omega, by go_num, ⟨hbx1⟩, ⟨by rw [diffCells_succ]; exact hv1⟩, ⟨HA.out.below hb1 (by omega)⟩, ⟨HA2.out.below hb1 (by omega)⟩, ⟨HB.out.trans (hb1.mono (by omega))⟩⟩
          case o8_2 =>
            go_simp
            refine hK _ _ ?_
            clear hK K
            refine wpAny_take (i := 10) (v := ?_) rfl (by kernel_rfl) (by kernel_rfl) (by kernel_rfl) (fun _ _ _ h => h) (Or.inl ⟨by rfl, ?_⟩) ?_
            case refine_2 => intro w'; go_simp; try rfl
            refine wpAny_ready (rs := [6, 11]) (by kernel_rfl) (by simp) (AllReady.cons rfl (fun K hK => ?o6_5) (AllReady.cons rfl (fun K hK => ?o11_5) (AllReady.nil)))
            case o6_5 =>
              go_simp
              refine hK _ _ ?_
              clear hK K
              refine wpAny_ready (rs := [11]) (by kernel_rfl) (by simp) (AllReady.cons rfl (fun K hK => ?o11_6) (AllReady.nil))
              case o11_6 =>
                go_simp
                refine hK _ _ ?_
                clear hK K
                refine wpAny_ready (rs := [12]) (by kernel_rfl) (by simp) (AllReady.cons rfl (fun K hK => ?_) AllReady.nil)
                go_simp
                refine (each_calls i Ax cx (rowAt l0_0 i) Ay cy (rowAt l1_0 i) wd (w.heap.size + 1 + 1) v' (diffCells l0_0 l1_0 i) (fun W hW => Kd.C_below HX.out (HB.out.trans (hW.mono (by omega)))) (fun W hW => Kd.C_below HY.out (HB.out.trans (hW.mono (by omega)))) (by omega) (by omega) (by omega) HBX.out HV.out).mono ?_
                rintro e w1 ⟨rfl, v1, hbx1, hv1, hb1⟩
                refine hK _ _ ?_
                clear hK K
                refine wpAny_done (by kernel_rfl) ?_ _
                go_wp2
                go_roundw
                case measure => simp [intOf]; omega
                case rel => exact ⟨i + 1, v1, by omega, by go_num, ⟨hbx1⟩, ⟨by rw [diffCells_succ]; exact hv1⟩, ⟨HA.out.below hb1 (by omega)⟩, ⟨HA2.out.below hb1 (by omega)⟩, ⟨HB.out.trans (hb1.mono (by omega))⟩⟩
            case o11_5 =>
              go_simp
              refine hK _ _ ?_
              clear hK K
              refine wpAny_ready (rs := [6]) (by kernel_rfl) (by simp) (AllReady.cons rfl (fun K hK => ?o6_7) (AllReady.nil))
              case o6_7 =>
                go_simp
                refine hK _ _ ?_
                clear hK K
                refine wpAny_ready (rs := [12]) (by kernel_rfl) (by simp) (AllReady.cons rfl (fun K hK => ?_) AllReady.nil)
                go_simp
                refine (each_calls i Ax cx (rowAt l0_0 i) Ay cy (rowAt l1_0 i) wd (w.heap.size + 1 + 1) v' (diffCells l0_0 l1_0 i) (fun W hW => Kd.C_below HX.out (HB.out.trans (hW.mono (by omega)))) (fun W hW => Kd.C_below HY.out (HB.out.trans (hW.mono (by omega)))) (by omega) (by omega) (by omega) HBX.out HV.out).mono ?_
                rintro e w1 ⟨rfl, v1, hbx1, hv1, hb1⟩
                refine hK _ _ ?_
                clear hK K
                refine wpAny_done (by kernel_rfl) ?_ _
                go_wp2
                go_roundw
                case measure => simp [intOf]; omega
                case rel => exact ⟨i + 1, v1, by omega, by go_num, ⟨hbx1⟩, ⟨by rw [diffCells_succ]; exact hv1⟩, ⟨HA.out.below hb1 (by omega)⟩, ⟨HA2.out.below hb1 (by omega)⟩, ⟨HB.out.trans (hb1.mono (by omega))⟩⟩
        case o8_1 =>
          go_simp
          refine hK _ _ ?_
          clear hK K
          refine wpAny_take (i := 10) (v := ?_) rfl (by kernel_rfl) (by kernel_rfl) (by kernel_rfl) (fun _ _ _ h => h) (Or.inl ⟨by rfl, ?_⟩) ?_
          case refine_2 => intro w'; go_simp; try rfl
          refine wpAny_ready (rs := [3, 11]) (by kernel_rfl) (by simp) (AllReady.cons rfl (fun K hK => ?o3_8) (AllReady.cons rfl (fun K hK => ?o11_8) (AllReady.nil)))
          case o3_8 =>
            go_simp
            refine hK _ _ ?_
            clear hK K
            refine wpAny_take (i := 5) (v := ?_) rfl (by kernel_rfl) (by kernel_rfl) (by kernel_rfl) (fun _ _ _ h => h) (Or.inl ⟨by rfl, ?_⟩) ?_
            case refine_2 => intro w'; go_simp; try rfl
            refine wpAny_ready (rs := [6, 11]) (by kernel_rfl) (by simp) (AllReady.cons rfl (fun K hK => ?o6_9) (AllReady.cons rfl (fun K hK => ?o11_9) (AllReady.nil)))
            case o6_9 =>
              go_simp
              refine hK _ _ ?_
              clear hK K
              refine wpAny_ready (rs := [11]) (by kernel_rfl) (by simp) (AllReady.cons rfl (fun K hK => ?o11_10) (AllReady.nil))
              case o11_10 =>
                go_simp
                refine hK _ _ ?_
                clear hK K
                refine wpAny_ready (rs := [12]) (by kernel_rfl) (by simp) (AllReady.cons rfl (fun K hK => ?_) AllReady.nil)
                go_simp
                refine (each_calls i Ax cx (rowAt l0_0 i) Ay cy (rowAt l1_0 i) wd (w.heap.size + 1 + 1) v' (diffCells l0_0 l1_0 i) (fun W hW => Kd.C_below HX.out (HB.out.trans (hW.mono (by omega)))) (fun W hW => Kd.C_below HY.out (HB.out.trans (hW.mono (by omega)))) (by omega) (by omega) (by omega) HBX.out HV.out).mono ?_
                rintro e w1 ⟨rfl, v1, hbx1, hv1, hb1⟩
                refine hK _ _ ?_
                clear hK K
                refine wpAny_done (by kernel_rfl) ?_ _
                go_wp2
                go_roundw
                case measure => simp [intOf]; omega
                case rel => exact ⟨i + 1, v1, by omega, by go_num, ⟨hbx1⟩, ⟨by rw [diffCells_succ]; exact hv1⟩, ⟨HA.out.below hb1 (by omega)⟩, ⟨HA2.out.below hb1 (by omega)⟩, ⟨HB.out.trans (hb1.mono (by omega))⟩⟩
            case o11_9 =>
              go_simp
              refine hK _ _ ?_
              clear hK K
              refine wpAny_ready (rs := [6]) (by kernel_rfl) (by simp) (AllReady.cons rfl (fun K hK => ?o6_11) (AllReady.nil))
              case o6_11 =>
                go_simp
                refine hK _ _ ?_
                clear hK K
                refine wpAny_ready (rs := [12]) (by kernel_rfl) (by simp) (AllReady.cons rfl (fun K hK => ?_) AllReady.nil)
                go_simp
                refine (each_calls i Ax cx (rowAt l0_0 i) Ay cy (rowAt l1_0 i) wd (w.heap.size + 1 + 1) v' (diffCells l0_0 l1_0 i) (fun W hW => Kd.C_below HX.out (HB.out.trans (hW.mono (by omega)))) (fun W hW => Kd.C_below HY.out (HB.out.trans (hW.mono (by omega)))) (by omega) (by omega) (by omega) HBX.out HV.out).mono ?_
                rintro e w1 ⟨rfl, v1, hbx1, hv1, hb1⟩
                refine hK _ _ ?_
                clear hK K
                refine wpAny_done (by kernel_rfl) ?_ _
                go_wp2
                go_roundw
                case measure => simp [intOf]; omega
                case rel => exact ⟨i + 1, v1, by omega, by go_num, ⟨hbx1⟩, ⟨by rw [diffCells_succ]; exact hv1⟩, ⟨HA.out.below hb1 (by omega)⟩, ⟨HA2.out.below hb1 (by omega)⟩, ⟨HB.out.trans (hb1.mono (by omega))⟩⟩
          case o11_8 =>
            go_simp
            refine hK _ _ ?_
            clear hK K
            refine wpAny_ready (rs := [3]) (by kernel_rfl) (by simp) (AllReady.cons rfl (fun K hK => ?o3_12) (AllReady.nil))
            case o3_12 =>
              go_simp
              refine hK _ _ ?_
              clear hK K
              refine wpAny_take (i := 5) (v := ?_) rfl (by kernel_rfl) (by kernel_rfl) (by kernel_rfl) (fun _ _ _ h => h) (Or.inl ⟨by rfl, ?_⟩) ?_
              case refine_2 => intro w'; go_simp; try rfl
              refine wpAny_ready (rs := [6]) (by kernel_rfl) (by simp) (AllReady.cons rfl (fun K hK => ?o6_13) (AllReady.nil))
              case o6_13 =>
                go_simp
                refine hK _ _ ?_
                clear hK K
                refine wpAny_ready (rs := [12]) (by kernel_rfl) (by simp) (AllReady.cons rfl (fun K hK => ?_) AllReady.nil)
                go_simp
                refine (each_calls i Ax cx (rowAt l0_0 i) Ay cy (rowAt l1_0 i) wd (w.heap.size + 1 + 1) v' (diffCells l0_0 l1_0 i) (fun W hW => Kd.C_below HX.out (HB.out.trans (hW.mono (by omega)))) (fun W hW => Kd.C_below HY.out (HB.out.trans (hW.mono (by omega)))) (by omega) (by omega) (by omega) HBX.out HV.out).mono ?_
                rintro e w1 ⟨rfl, v1, hbx1, hv1, hb1⟩
                refine hK _ _ ?_
                clear hK K
                refine wpAny_done (by kernel_rfl) ?_ _
                go_wp2
                go_roundw
                case measure => simp [intOf]; omega
                case rel => exact ⟨i + 1, v1, by omega, by go_num, ⟨hbx1⟩, ⟨by rw [diffCells_succ]; exact hv1⟩, ⟨HA.out.below hb1 (by omega)⟩, ⟨HA2.out.below hb1 (by omega)⟩, ⟨HB.out.trans (hb1.mono (by omega))⟩⟩
      · have hi1 : decide ((i : Int) < (l0_0.length : Int)) = false := decide_eq_false hi
        obtain rfl : i = l0_0.length := by omega
        have hcl := diffCells_len HN1.out HM1.out l0_0.length
        have hac1 := HA.out.c1
        have hac2 := HA2.out.c1
        go_wp2_with fail
        refine (each_calls (-1) A0_1 c0_1 l0_1 A1_1 c1_1 l1_1 wr (w.heap.size + 1 + 1) v' (diffCells l0_0 l1_0 l0_0.length) (fun W hW => Kd.C_below HR01.out (HB.out.trans (hW.mono (by omega)))) (fun W hW => Kd.C_below HR11.out (HB.out.trans (hW.mono (by omega)))) (by omega) (by omega) (by omega) HBX.out HV.out).mono ?_
        rintro e w1 ⟨rfl, v1, hbx1, hv1, hb1⟩
        have hA1 := HA.out.below hb1 (by omega)
        have hA3 := HA2.out.below hb1 (by omega)
        have hB1 := HB.out.trans (hb1.mono (by omega))
        have h1c := hA1.c2
        have h2c := hA3.c2
        have hl1 := eachF_len (cell := -1) hn2 hm2
        have hll : (diffCells l0_0 l1_0 l0_0.length ++ eachF (-1) l0_1 l1_1).length ≤ 100000000 := by rw [List.length_append]; omega
        clear hac1 hac2 HA HA2 HBX HV HB
        have HV := Lib.hid hv1
        have HBX := Lib.hid hbx1
        have HB := Lib.hid hB1
        clear hv1 hb1 hA1 hA3 hB1 hbx1
        go_wp2_with fail
        refine (each_calls (-2) A0_2 c0_2 l0_2 A1_2 c1_2 l1_2 w1 (w.heap.size + 1 + 1) v1 _ (fun W hW => Kd.C_below HR02.out (HB.out.trans (hW.mono (by omega)))) (fun W hW => Kd.C_below HR12.out (HB.out.trans (hW.mono (by omega)))) (by omega) (by omega) (by omega) HBX.out HV.out).mono ?_
        rintro e w2 ⟨rfl, v2, hbx2, hv2, hb2⟩
        have hB2 := HB.out.trans (hb2.mono (by omega))
        have h3c := hbx2.cell
        rw [← HR.out] at hv2
        have HV2 := Lib.hid hv2
        clear hv2 hb2 HV HBX HB hbx2
        go_wp2
        go_ret
        exact ⟨v2, rfl, Kd.R_lower HV2.out (by omega), hB2⟩
  · have hle1 : decide ((l0_0.length : Int) = (l1_0.length : Int)) = false := decide_eq_false hle
    have hle2 : ((l0_0.length : Int) != (l1_0.length : Int)) = true := by simpa using hle
    have hleb : ((l0_0.length : Int) == (l1_0.length : Int)) = false := by simpa using hle
    have hle3 : ¬ l0_0.length = l1_0.length := by omega
    have hr : r = [] := by rw [← h]; unfold diffAll; rw [if_neg hle]
    subst hr
    clear h
    go_enter Try.func16, Try.ntmps16
    go_wp2
    go_ret
    exact ⟨_, rfl, Kd.R_nil _ _ _ _ _, below_alloc (below_alloc (Below.refl _ _) _) _⟩
end Go.Proofs.Ytjphfhmkpknfaaa.PAll
